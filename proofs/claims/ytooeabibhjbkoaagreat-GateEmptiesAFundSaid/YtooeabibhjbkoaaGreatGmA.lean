import Derived.Test.YtooeabibhjbkoaaGreatRegC
import Derived.Test.YtooeabibhjbkoaaGreatAlB
import Derived.Test.YtooeabibhjbkoaaGreatApA
import Derived.BigQuiet
import Derived.Test.YtooeabibhjbkoaaGreatBiX
set_option linter.unusedVariables false
set_option linter.unusedSimpArgs false
set_option maxRecDepth 100000
namespace Go.Proofs.YtooeabibhjbkoaaGreat
open Go.RowKit Reg Al
namespace Ga
structure Rq where
 key:ByteArray
 units:Int
 value:Int
def Rq.cells (b:Rq):List Value:=[.string b.key,.int .i64 b.units,.int .i64 b.value]
def cellsQ (l:List Rq):List Value:=l.flatMap Rq.cells
theorem cellsQ_len (l:List Rq):(cellsQ l).length=l.length*3:=by
 induction l with
 | nil=>rfl
 | cons b l ih=>simp only [cellsQ,List.flatMap_cons,List.length_append,List.length_cons,Rq.cells,List.length_nil] at ih ⊢;rw [ih];omega
theorem cellsQ_get (l:List Rq) (k:Nat) (b:Rq) (h:l[k]?=some b):∀ j u,b.cells[j]?=some u→(cellsQ l)[k*3+j]?=some u:=by
 induction l generalizing k with
 | nil=>simp at h
 | cons a l ih =>
  intro j u hu
  have hj:j<3:=by have:=(List.getElem?_eq_some_iff.1 hu).1;simpa [Rq.cells] using this
  cases k with
  | zero =>
   simp only [List.getElem?_cons_zero,Option.some.injEq] at h
   subst h
   rw [cellsQ,List.flatMap_cons,List.getElem?_append_left (by simp [Rq.cells];omega),Nat.zero_mul,Nat.zero_add];exact hu
  | succ k =>
   rw [cellsQ,List.flatMap_cons,List.getElem?_append_right (by simp [Rq.cells];omega)]
   have:=ih k (by simpa using h) j u hu
   rw [cellsQ] at this
   rw [←this];congr 1;simp [Rq.cells];omega
def okQ (b:Rq):Bool:=nameB b.key&&inR b.units 1 1000000000000000&&inR b.value 0 1000000000000000
def okAtQ (l:List Rq) (k:Nat):Bool:=match l[k]? with
 | some b=>okQ b&&!((l.take k).any fun c=>decide (c.key=b.key))
 | none=>true
def okLQ (l:List Rq):Bool:=(List.range l.length).all fun k=>okAtQ l k
def checkQ (l:List Rq):Bool:=decide (l.length≤64)&&okLQ l
theorem okLQ_yes {l:List Rq} (h:∀ k,k<l.length→okAtQ l k=true):okLQ l=true:=by
 unfold okLQ;rw [List.all_eq_true];intro k hk;exact h k (List.mem_range.1 hk)
theorem okLQ_no {l:List Rq} {k:Nat} (hk:k<l.length) (h:okAtQ l k=false):okLQ l=false:=by
 unfold okLQ;rw [List.all_eq_false];exact ⟨k,List.mem_range.2 hk,by rw [h];simp⟩
theorem okLQ_at {l:List Rq} (h:okLQ l=true) {k:Nat} (hk:k<l.length):okAtQ l k=true:=by
 unfold okLQ at h;rw [List.all_eq_true] at h;exact h k (List.mem_range.2 hk)
theorem check_mem {l:List Rq} (h:checkQ l=true) {x:Rq} (hx:x∈l):1≤x.units∧x.units≤1000000000000000∧0≤x.value∧x.value≤1000000000000000:=by
 obtain ⟨k,hk⟩:=List.mem_iff_getElem?.1 hx
 unfold checkQ at h
 rw [Bool.and_eq_true] at h
 have:=okLQ_at h.2 (List.getElem?_eq_some_iff.1 hk).1
 rw [okAtQ,hk] at this
 simp only [okQ,Bool.and_eq_true] at this
 have h1:=inR_yes this.1.1.2
 have h2:=inR_yes this.1.2
 exact ⟨h1.1,h1.2,h2.1,h2.2⟩
theorem check_len {l:List Rq} (h:checkQ l=true):l.length≤64:=by
 unfold checkQ at h;rw [Bool.and_eq_true] at h;exact of_decide_eq_true h.1
end Ga
open Ga
def RqsAt (w:World) (v:Value) (l:List Rq):Prop:=Rd w 3 v l.length (cellsQ l)
theorem RqsAt.below {w w':World} {v:Value} {l:List Rq} (h:RqsAt w v l) (hb:Below w.heap.size w w'):RqsAt w' v l:=Rd.below h hb
def QAt (w:World) (g o:Nat) (x:Rq):Prop:=w.cell? ⟨g,o,none⟩=some (.string x.key)∧w.cell? ⟨g,o+1,none⟩=some (.int .i64 x.units)∧w.cell? ⟨g,o+2,none⟩=some (.int .i64 x.value)
theorem QAt.below {w w':World} {g o:Nat} {x:Rq} (h:QAt w g o x) (hb:Below w.heap.size w w'):QAt w' g o x:=⟨qcU h.1 hb,qcU h.2.1 hb,qcU h.2.2 hb⟩
theorem rqs_some {w:World} {v:Value} {l:List Rq} (h:RqsAt w v l) (hn:0<l.length):∃ g off cap,v=.slice (some ⟨g,off,none⟩) l.length cap∧∀ k x,l[k]?=some x→QAt w g (off+k*3) x:=by
 obtain ⟨h1,h2,A,cap,hv,h3⟩:=h
 obtain ⟨g,off,ha,hc⟩:=h3 hn
 subst ha
 refine ⟨g,off,cap,hv,fun k x hx=>?_⟩
 have c:=cellsQ_get l k x hx
 exact ⟨hc _ _ (c 0 _ rfl),by rw [Nat.add_assoc];exact hc _ _ (c 1 _ rfl),by rw [Nat.add_assoc];exact hc _ _ (c 2 _ rfl)⟩
theorem rqs_lt {w:World} {g off:Nat} {l:List Rq} (h:∀ k x,l[k]?=some x→QAt w g (off+k*3) x) (hn:0<l.length):g<w.heap.size:=by
 have:=(h 0 _ (List.getElem?_eq_getElem hn)).1
 exact World.block_lt_of_cell? w _ this
theorem anyQ_take {l:List Rq} {k:Nat} (s:ByteArray):(((l.take k).map Rq.key).any fun t=>decide (t=s))=(l.take k).any fun c=>decide (c.key=s):=by
 rw [List.any_map];rfl
theorem nameB_small16 {s:ByteArray} (h:Reg.nameB s=true):s.size≤16:=by
 unfold Reg.nameB at h;simp only [Bool.and_eq_true,decide_eq_true_eq] at h;exact h.1.1.2
theorem onameC (s:ByteArray) (b:Bool) (h:Reg.nameB s=b) (w:World):Calls Tryz.prog 56 #[.string s] w fun e w'=>e=.returned (.bool b)∧Below w.heap.size w w':=by rw [←h];exact oname_any s w
theorem wpQuiet_look_g {P:Program} {ops:Array Oper} {w:World} {Q:Act→Prop} {a:Act} {op:Oper} {rest:List Oper} {t:TypeId} {m k:Operand} {vm vk v:Value} (hgd:Region.wanted op (yielded ops a.tmps)=true) (ho:op.op=.lookup t m k false)
  (hm:a.eval m=vm) (hk:a.eval k=vk) (hl:∀ W,Below w.heap.size w W→(Instr.lookup t vm vk false).run P W=.ok v W)
  (h:wpQuiet P ops (fun w'=>∃ p:GB,w'=gw w p.d p.os) Q rest (a.put op.dst v)) :
  wpQuiet P ops (fun w'=>∃ p:GB,w'=gw w p.d p.os) Q (op::rest) a:=by
 refine wpQuiet_step (fun K hK=>?_)
 rw [if_pos hgd]
 refine ⟨v,fun W hW=>?_,hK _ h⟩
 obtain ⟨p,rfl⟩:=hW
 unfold Oper.quietAt execOp
 have:=hl _ (qbG w p.d p.os)
 simp only [ho,hm,hk,Sem.run_bind,Sem.run_pure,Result.andThen_ok,this]
 exact ⟨rfl,rfl⟩
end Go.Proofs.YtooeabibhjbkoaaGreat
namespace Go.Proofs.YtooeabibhjbkoaaGreat
open Go.RowKit Reg Al Ga
namespace Ga
structure Od where
 key:ByteArray
 nom:ByteArray
 hol:ByteArray
 fund:ByteArray
 cls:ByteArray
 kind:Int
 amount:Int
 units:Int
 at_:Int
 known:Int
 void:Bool
def Od.cells (o:Od):List Value:=[.string o.key,.string o.nom,.string o.hol,.string o.fund,.string o.cls,.int .i64 o.kind,.int .i64 o.amount,.int .i64 o.units,.int .i64 o.at_,.int .i64 o.known,.bool o.void]
structure Tk where
 o:Od
 day:Int
 first:Int
def Tk.cells (x:Tk):List Value:=[.string x.o.key,.string x.o.nom,.string x.o.hol,.string x.o.fund,.string x.o.cls,.int .i64 x.o.kind,.int .i64 x.o.amount,.int .i64 x.o.units,.int .i64 x.o.at_,.int .i64 x.o.known,.bool x.o.void,.int .i64 x.day,.int .i64 x.first]
def cellsT (l:List Tk):List Value:=l.flatMap Tk.cells
theorem cellsT_app (a b:List Tk):cellsT (a++b)=cellsT a++cellsT b:=by simp [cellsT]
theorem cellsT_get (l:List Tk) (k:Nat) (b:Tk) (h:l[k]?=some b):∀ j u,b.cells[j]?=some u→(cellsT l)[k*13+j]?=some u:=by
 induction l generalizing k with
 | nil=>simp at h
 | cons a l ih =>
  intro j u hu
  have hj:j<13:=by have:=(List.getElem?_eq_some_iff.1 hu).1;simpa [Tk.cells] using this
  cases k with
  | zero =>
   simp only [List.getElem?_cons_zero,Option.some.injEq] at h
   subst h
   rw [cellsT,List.flatMap_cons,List.getElem?_append_left (by simp [Tk.cells];omega),Nat.zero_mul,Nat.zero_add];exact hu
  | succ k =>
   rw [cellsT,List.flatMap_cons,List.getElem?_append_right (by simp [Tk.cells];omega)]
   have:=ih k (by simpa using h) j u hu
   rw [cellsT] at this
   rw [←this];congr 1;simp [Tk.cells];omega
def headO (o:Od):Bool:=nameB o.key&&inR o.at_ 0 105190559&&inR o.known 1 2147483647
def askO (o:Od):Bool :=
 if o.kind=1∨o.kind=4 then inR o.amount 1 1000000000000000&&decide (o.units=0)
 else if o.kind=2∨o.kind=3 then inR o.units 1 1000000000000000&&decide (o.amount=0)
 else if o.kind=5 then decide (o.amount=0)&&decide (o.units=0) else false
def okO (o:Od):Bool:=headO o&&(acctB o.nom o.hol&&nameB o.fund&&nameB o.cls&&askO o)
def Tk.over (x:Tk) (n next:Int):Tk:=⟨{ x.o with kind:=3,amount:=0,units:=n },next,x.first⟩
def okC (x:Tk) (w a:Int):Bool:=!x.o.void&&okO x.o&&inR w 1 1000000000000000&&inR a 0 w
def okCs:List Tk→List Int→List Int→Bool
 | x::l,w::ws,a::ss=>okC x w a&&okCs l ws ss
 | _,_,_=>true
def carryL (next:Int):List Tk→List Int→List Int→List Tk
 | x::l,w::ws,a::ss=>if a<w then x.over (w - a) next::carryL next l ws ss else carryL next l ws ss
 | _,_,_=>[]
def carryE (l:List Tk) (ws ss:List Int) (next:Int):Option Int :=
 if 64<l.length∨ws.length≠l.length∨ss.length≠l.length then some 270 else if okCs l ws ss=false then some 270 else if next<0∨73048<next then some 50 else none
theorem okCs_at:∀ {l:List Tk} {ws ss:List Int} {k:Nat} {x:Tk} {w a:Int},l[k]?=some x→ws[k]?=some w→ss[k]?=some a→okCs l ws ss=true→okC x w a=true
 | [],_,_,_,_,_,_,h,_,_,_=>by simp at h
 | _::_,[],_,_,_,_,_,_,h,_,_=>by simp at h
 | _::_,_::_,[],_,_,_,_,_,_,h,_=>by simp at h
 | y::l,v::ws,b::ss,0,x,w,a,h1,h2,h3,h=>by
  simp at h1 h2 h3;subst h1 h2 h3
  unfold okCs at h;rw [Bool.and_eq_true] at h;exact h.1
 | y::l,v::ws,b::ss,k+1,x,w,a,h1,h2,h3,h=>by
  unfold okCs at h;rw [Bool.and_eq_true] at h
  exact okCs_at (by simpa using h1) (by simpa using h2) (by simpa using h3) h.2
theorem okCs_all:∀ {l:List Tk} {ws ss:List Int},ws.length=l.length→ss.length=l.length→(∀ (k:Nat) (x:Tk) (w a:Int),l[k]?=some x→ws[k]?=some w→ss[k]?=some a→okC x w a=true)→okCs l ws ss=true
 | [],_,_,_,_,_=>by unfold okCs;rfl
 | y::l,[],_,h,_,_=>by simp at h
 | y::l,v::ws,[],_,h,_=>by simp at h
 | y::l,v::ws,b::ss,h1,h2,h=>by
  unfold okCs
  rw [h 0 y v b rfl rfl rfl,Bool.true_and]
  exact okCs_all (by simpa using h1) (by simpa using h2) fun k x w a e1 e2 e3=>h (k+1) x w a (by simpa using e1) (by simpa using e2) (by simpa using e3)
theorem carry_snoc (next:Int):∀ {l:List Tk} {ws ss:List Int} {k:Nat} {x:Tk} {w a:Int},l[k]?=some x→ws[k]?=some w→ss[k]?=some a →
  carryL next (l.take (k+1)) (ws.take (k+1)) (ss.take (k+1))=carryL next (l.take k) (ws.take k) (ss.take k)++(if a<w then [x.over (w - a) next] else [])
 | [],_,_,_,_,_,_,h,_,_=>by simp at h
 | _::_,[],_,_,_,_,_,_,h,_=>by simp at h
 | _::_,_::_,[],_,_,_,_,_,_,h=>by simp at h
 | y::l,v::ws,b::ss,0,x,w,a,h1,h2,h3=>by
  simp at h1 h2 h3;subst h1 h2 h3
  simp only [List.take_succ_cons,List.take_zero,carryL,List.nil_append]
 | y::l,v::ws,b::ss,k+1,x,w,a,h1,h2,h3=>by
  have:=carry_snoc next (l:=l) (ws:=ws) (ss:=ss) (k:=k) (by simpa using h1) (by simpa using h2) (by simpa using h3)
  rw [List.take_succ_cons,List.take_succ_cons,List.take_succ_cons,List.take_succ_cons,List.take_succ_cons,List.take_succ_cons]
  unfold carryL
  rw [this]
  split<;>simp
theorem carry_len (next:Int):∀ (l:List Tk) (ws ss:List Int),(carryL next l ws ss).length≤l.length
 | [],_,_=>by unfold carryL;simp
 | y::l,[],_=>by unfold carryL;simp
 | y::l,v::ws,[]=>by unfold carryL;simp
 | y::l,v::ws,b::ss=>by
  unfold carryL
  have:=carry_len next l ws ss
  split<;>simp<;>omega
end Ga
open Ga
def TksAt (w:World) (v:Value) (l:List Tk):Prop:=Rd w 13 v l.length (cellsT l)
theorem TksAt.below {w w':World} {v:Value} {l:List Tk} (h:TksAt w v l) (hb:Below w.heap.size w w'):TksAt w' v l:=Rd.below h hb
end Go.Proofs.YtooeabibhjbkoaaGreat
set_option maxHeartbeats 2000000
namespace Go.Proofs.YtooeabibhjbkoaaGreat
open Go.RowKit Reg
open Lib (hid)
def modI (n m:Int):Int:=if m<1 then 0 else n%m
theorem modI_bd (n m:Int) (h:1≤m):0≤modI n m∧modI n m<m:=by
  unfold modI;rw [if_neg (by omega)];exact ⟨Int.emod_nonneg _ (by omega),Int.emod_lt_of_pos _ (by omega)⟩
theorem tmod_emod_A (v n:Int) (hn:1≤n):(v.tmod n<0→v.tmod n+n=v%n)∧(¬v.tmod n<0→v.tmod n=v%n)∧-n<v.tmod n∧v.tmod n<n:=by
  have h1:=Int.emod_nonneg v (show n≠0 by omega)
  have h2:=Int.emod_lt_of_pos v (show 0<n by omega)
  have h3:=Int.tmod_eq_emod (a:=v) (b:=n)
  have h4:(n.natAbs:Int)=n:=by omega
  by_cases hd:0≤v∨n∣v
  · rw [if_pos hd] at h3
    refine ⟨fun h=>?_,fun h=>?_,?_,?_⟩<;>omega
  · rw [if_neg hd] at h3
    have h5:v%n≠0:=fun h=>hd (.inr (Int.dvd_of_emod_eq_zero h))
    refine ⟨fun h=>?_,fun h=>?_,?_,?_⟩<;>omega
theorem mod_any (v n:Int) (w:World) (hn:n≤9223372036854775807) :
    Calls Tryz.prog 15 #[.int .i64 v,.int .i64 n] w fun e w'=>e=.returned (.int .i64 (modI v n))∧w=w':=by
  by_cases h1:n<1
  · have HF:=hid (show modI v n=0 by unfold modI;rw [if_pos h1])
    go_enter Tryz.func15,Tryz.ntmps15
    go_wp2
    go_ret
    exact ⟨ret_int HF.out.symm,rfl⟩
  · have HF:=hid (show modI v n=v%n by unfold modI;rw [if_neg h1])
    obtain ⟨t1,t2,t3,t4⟩:=tmod_emod_A v n (by omega)
    have H1:=hid t1
    have H2:=hid t2
    clear t1 t2
    have hn0:¬n=0:=by omega
    have hw:IntKind.i64.wrap (v.tmod n)=v.tmod n:=IntWalk.i64_in _ (by omega)
    go_enter Tryz.func15,Tryz.ntmps15
    by_cases c:v.tmod n<0
    · have HS:=hid (H1.out c)
      have hw2:IntKind.i64.wrap (v.tmod n+n)=v.tmod n+n:=IntWalk.i64_in _ (by omega)
      go_wp2
      go_ret
      exact ⟨ret_int (by rw [HF.out,HS.out]),rfl⟩
    · have HS:=hid (H2.out c)
      go_wp2
      go_ret
      exact ⟨ret_int (by rw [HF.out,HS.out]),rfl⟩
def IsTp (w:World) (bt:Nat):Prop:=∃ (at_:Nat) (a:Option Addr) (len cap:Nat),at_≤len∧w.cell? ⟨bt,0,none⟩=some (.slice a len cap)∧w.cell? ⟨bt,1,none⟩=some (.int .i64 at_)∧(∀ o,w.frozen? ⟨bt,o,none⟩=false)∧len≤9223372036854775807 ∧
  (∀ j,j<len→∃ b off v,a=some ⟨b,off,none⟩∧b<bt∧w.cell? ⟨b,off+j,none⟩=some (.int .i64 v))
theorem grownBy_up {a b:World} (h:Below a.heap.size a b) (row:Option Nat):a.grownBy b row:=⟨h.os,h.tape,h.output,h.size,fun k hk _=>h.block k hk⟩
theorem IsTp.lt {w:World} {bt:Nat} (h:IsTp w bt):bt<w.heap.size:=by
  obtain ⟨_,a,len,cap,_,h0,_⟩:=h
  exact World.block_lt_of_cell? w _ h0
theorem IsTp.below {w w':World} {bt:Nat} (h:IsTp w bt) (hb:Below w.heap.size w w'):IsTp w' bt:=by
  have hlt:=h.lt
  obtain ⟨at_,a,len,cap,hle,h0,h1,h2,h3,h4⟩:=h
  refine ⟨at_,a,len,cap,hle,qcU h0 hb,qcU h1 hb,fun o=>by rw [hb.frozen (p:=⟨bt,o,none⟩) hlt];exact h2 o,h3,fun j hj=>?_⟩
  obtain ⟨b,off,v,e,hne,hc⟩:=h4 j hj
  exact ⟨b,off,v,e,hne,qcU hc hb⟩
theorem IsTp.drewN {w:World} {bt:Nat} (h:IsTp w bt) (d:Nat):IsTp (w.drewN d) bt:=h
theorem IsTp.grown {w w':World} {bt:Nat} {row:Option Nat} (h:IsTp w bt) (hg:w.grownBy w' row) (hr:∀ k,row=some k→bt<k):IsTp w' bt:=by
  have hlt:=h.lt
  obtain ⟨at_,a,len,cap,hle,h0,h1,h2,h3,h4⟩:=h
  have hb:∀ b,b≤bt→w'.heap[b]?=w.heap[b]?:=fun b hb=>hg.block b (by omega) (fun e=>by have:=hr b e.symm;omega)
  refine ⟨at_,a,len,cap,hle,?_,?_,fun o=>?_,h3,fun j hj=>?_⟩
  · rw [World.cell?_of_block (w:=w) (hb bt (Nat.le_refl _))];exact h0
  · rw [World.cell?_of_block (w:=w) (hb bt (Nat.le_refl _))];exact h1
  · rw [World.frozen?_of_block (w:=w) (hb bt (Nat.le_refl _))];exact h2 o
  · obtain ⟨b,off,v,e,hne,hc⟩:=h4 j hj
    exact ⟨b,off,v,e,hne,by rw [World.cell?_of_block (w:=w) (hb b (by omega))];exact hc⟩
def Drew (w:World) (bt:Nat) (w':World):Prop:=IsTp w' bt∧w.grownBy w' (some bt)
theorem Drew.refl {w:World} {bt:Nat} (h:IsTp w bt):Drew w bt w:=⟨h,grownBy_refl _ _⟩
theorem Drew.trans {a b c:World} {bt:Nat} (h:Drew a bt b) (k:Drew b bt c):Drew a bt c:=⟨k.1,gBt h.2 k.2⟩
theorem Drew.below {a b c:World} {bt:Nat} (h:Drew a bt b) (k:Below b.heap.size b c):Drew a bt c:=⟨h.1.below k,gBt h.2 (grownBy_up k _)⟩
theorem Drew.cell {w w':World} {bt:Nat} {a:Addr} {v:Value} (h:Drew w bt w') (hc:w.cell? a=some v) (hne:a.block≠bt):w'.cell? a=some v:=h.2.cell hc (fun e=>by simp at e;exact hne (by rw [e]))
theorem Drew.frozen {w w':World} {bt:Nat} {a:Addr} (h:Drew w bt w') (ha:a.block<w.heap.size) (hne:a.block≠bt):w'.frozen? a=w.frozen? a :=
  World.frozen?_of_block (h.2.block _ ha (fun e=>by simp at e;exact hne e))
theorem Drew.size {w w':World} {bt:Nat} (h:Drew w bt w'):w.heap.size≤w'.heap.size:=h.2.size
theorem Drew.setCell {w w':World} {bt:Nat} (h:Drew w bt w') (hbt:bt<w.heap.size) (p:Addr) (v:Value) (hp:w.heap.size≤p.block):Drew w bt (w'.setCell p v) :=
  ⟨h.1.grown (row:=some p.block) (grownBy_setCell p rfl v) (fun k hk=>by injection hk with hk;omega),
   h.2.os,h.2.tape,h.2.output,by simpa [World.setCell] using h.2.size,fun k hk hr=>(Below.heap_setCell _ _ _ _ (fun e=>by omega)).trans (h.2.block k hk hr)⟩
theorem Drew.alloc {w w':World} {bt:Nat} (h:Drew w bt w') (o:Obj):Drew w bt (w'.alloc o):=h.below ((Below.refl _ _).alloc (Nat.le_refl _) _)
theorem Drew.drewN {w w':World} {bt:Nat} (h:Drew w bt w') (d:Nat):Drew w bt (w'.drewN d):=h.below (below_drewN' (Below.refl _ _) _)
theorem next_any (bt:Nat) (n:Int) (w:World) (ht:IsTp w bt) (hn1:1≤n) (hn:n≤9223372036854775807) :
    Calls Tryz.prog 17 #[.pointer (some ⟨bt,0,none⟩),.int .i64 n] w fun e w'=>∃ v:Int,e=.returned (.int .i64 v)∧0≤v∧v<n∧Drew w bt w':=by
  have HT:=hid ht
  obtain ⟨at_,a,len,cap,hle,h0,h1,h2,h3,h4⟩:=ht
  have hz:=h2 1
  have HZ:=hid h2
  clear h2
  by_cases hlt:at_<len
  · obtain ⟨b,off,v,rfl,hne,hc⟩:=h4 at_ hlt
    have H4:=hid h4
    have HMB:=hid (modI_bd v n hn1)
    have HC0:=hid h0
    have hge:decide ((len:Int)≤(at_:Int))=false:=by simp;omega
    have hw1:IntKind.i64.wrap ((at_:Int)+1)=(at_:Int)+1:=IntWalk.i64_in _ (by omega)
    have hcb:b≠bt:=by omega
    clear h4
    go_enter Tryz.func17,Tryz.ntmps17
    go_wp2
    go_quiet (fail)
    go_wp2
    have hw2:(at_:Int)+1 - 1=(at_:Int):=by omega
    have hw3:IntKind.i64.wrap (at_:Int)=(at_:Int):=IntWalk.i64_in _ (by omega)
    go_quiet ((go_at_call 15;exact (mod_any _ _ _ hn).mono fun _ _ ⟨he,hw⟩=>⟨he,_,hw.symm⟩))
    go_wp2
    go_ret
    refine ⟨_,rfl,HMB.out.1,HMB.out.2,?_,grownBy_drewN (gBt (grownBy_drewN (grownBy_refl _ _) _) (grownBy_setCell (bt:=bt) ⟨bt,1,none⟩ rfl _)) _⟩
    refine IsTp.drewN ⟨at_+1,some ⟨b,off,none⟩,len,cap,by omega,?_,?_,fun o=>?_,h3,fun j hj=>?_⟩ _
    · rw [World.cell?_setCell_other _ _ _ _ (by simp)];exact HC0.out
    · exact World.cell?_setCell_same _ _ _ h1
    · rw [World.frozen?_setCell];exact HZ.out o
    · obtain ⟨b',off',v',e,hne',hc'⟩:=H4.out j hj
      exact ⟨b',off',v',e,hne',by rw [World.cell?_setCell_other _ _ _ _ (fun e=>by injection e with e1;omega)];exact hc'⟩
  · have hlt':len≤at_:=by omega
    clear h4
    go_enter Tryz.func17,Tryz.ntmps17
    go_wp2
    go_quiet (fail)
    go_wp2
    go_ret
    exact ⟨0,rfl,by omega,by omega,HT.out.below (below_drewN' (Below.refl _ _) _),grownBy_drewN (grownBy_refl _ _) _⟩
theorem pick_any (bt:Nat) (g cap n:Nat) (l:List Int) (w:World) (hn:l.length=n) (ht:IsTp w bt) (hl:0<n) (hl2:n≤1000000000) (hg:g≠bt)
    (hc:∀ j u,l[j]?=some u→w.cell? ⟨g,j,none⟩=some (.int .i64 u)) :
    Calls Tryz.prog 29 #[.pointer (some ⟨bt,0,none⟩),.slice (some ⟨g,0,none⟩) n cap] w fun e w'=>∃ s,s∈l∧e=.returned (.int .i64 s)∧Drew w bt w':=by
  have HC:=hid hc
  have HL:=hid hl
  have HN:=hid hn
  clear hc hl hn
  go_enter Tryz.func29,Tryz.ntmps29
  go_wp2_with fail
  refine (next_any bt n w ht (by have:=HL.out;omega) (by omega)).mono ?_
  rintro e w1 ⟨v,rfl,hv0,hv1,hd⟩
  obtain ⟨k,rfl⟩:∃ k:Nat,v=k:=⟨v.toNat,by omega⟩
  have hlt:k<n:=by omega
  obtain ⟨x,hx⟩:∃ x,l[k]?=some x:=⟨l[k]'(by rw [HN.out];exact hlt),by simp [HN.out,hlt]⟩
  have hc1:w1.cell? ⟨g,k,none⟩=some (.int .i64 x):=hd.cell (HC.out k x hx) hg
  have HX:=hid (List.mem_of_getElem? hx)
  have HD:=hid hd
  clear hx hd
  go_wp2
  go_ret
  exact ⟨x,HX.out,rfl,HD.out⟩
end Go.Proofs.YtooeabibhjbkoaaGreat
set_option maxHeartbeats 2000000
namespace Go.Proofs.YtooeabibhjbkoaaGreat
open Go.RowKit Reg
open Lib (hid)
namespace Reg
def scJones:ByteArray:=⟨#[106,111,110,101,115]⟩
def scSmith:ByteArray:=⟨#[115,109,105,116,104]⟩
def scBank:ByteArray:=⟨#[98,97,110,107]⟩
def scAnn:ByteArray:=⟨#[97,110,110]⟩
def scBob:ByteArray:=⟨#[98,111,98]⟩
def accs:List (ByteArray × ByteArray):=[(⟨#[]⟩,scSmith),(⟨#[]⟩,scJones),(scBank,scAnn),(scBank,scBob),(⟨#[]⟩,scAnn),(⟨#[]⟩,scBank)]
def accCells (l:List (ByteArray × ByteArray)):List Value:=l.flatMap fun x=>[.string x.1,.string x.2]
theorem accCells_get (l:List (ByteArray × ByteArray)) (i:Nat) (t:ByteArray × ByteArray) (h:l[i]?=some t):(accCells l)[i*2]?=some (.string t.1)∧(accCells l)[i*2+1]?=some (.string t.2):=by
 induction l generalizing i with
 | nil=>simp at h
 | cons a l ih =>
  cases i with
  | zero=>simp at h;subst h;simp [accCells]
  | succ i =>
   have:=ih i (by simpa using h)
   simp only [accCells,List.flatMap_cons,List.cons_append,List.nil_append] at this ⊢
   rw [show (i+1)*2+1=(i*2+1)+1+1 by omega,show (i+1)*2=(i*2)+1+1 by omega]
   simpa using this
theorem accs_ok:∀ x∈accs,acctB x.1 x.2=true:=by decide +kernel
end Reg
theorem addLit0 (b o j:Nat):(⟨b,o,none⟩:Addr).add j=⟨b,o+j,none⟩:=by unfold Addr.add;split<;>simp_all
theorem froz_two (w:World) (o o2:Obj) (j:Nat):((w.alloc o).alloc o2).frozen? ⟨w.heap.size,j,none⟩=(w.alloc o).frozen? ⟨w.heap.size,j,none⟩:=World.frozen?_of_block (Below.heap_alloc _ _ _ (by simp))
theorem account_any (bt:Nat) (w:World) (ht:IsTp w bt) :
  Calls Tryz.prog 53 #[.pointer (some ⟨bt,0,none⟩)] w fun e w'=>∃ x,x∈accs∧e=.returned (.agg #[.string x.1,.string x.2])∧Drew w bt w':=by
 have hbt:=ht.lt
 have HT:=hid ht
 go_enter Tryz.func53,Tryz.ntmps53
 go_wp2_with fail
 refine (next_any bt 6 _ (HT.out.below ?hb) (by omega) (by omega)).mono ?_
 case hb=>exact ((Below.refl _ _).alloc (Nat.le_refl _) _).alloc (by simp) _
 rintro e w1 ⟨v,rfl,hv0,hv1,hd⟩
 obtain ⟨k,rfl⟩:∃ k:Nat,v=k:=⟨v.toNat,by omega⟩
 have hlt:k<accs.length:=by show k<6;omega
 obtain ⟨x,hx⟩:∃ x,accs[k]?=some x:=⟨accs[k],by simp [hlt]⟩
 obtain ⟨g0,g1⟩:=accCells_get accs k x hx
 have c0:w1.cell? ⟨w.heap.size+1,k*2,none⟩=some (.string x.1):=hd.cell (by have:=cells_new (w.alloc (.cells #[.string ⟨#[]⟩,.string ⟨#[]⟩] 61)) (accCells accs) 61 _ _ g0;rwa [addLit0,World.size_alloc,Nat.zero_add] at this) (by simp;omega)
 have c1:w1.cell? ⟨w.heap.size+1,k*2+1,none⟩=some (.string x.2):=hd.cell (by have:=cells_new (w.alloc (.cells #[.string ⟨#[]⟩,.string ⟨#[]⟩] 61)) (accCells accs) 61 _ _ g1;rwa [addLit0,World.size_alloc,Nat.zero_add] at this) (by simp;omega)
 have r0:w1.cell? ⟨w.heap.size,0,none⟩=some (.string ⟨#[]⟩):=hd.cell (by go_cell) (by simp;omega)
 have r1:w1.cell? ⟨w.heap.size,1,none⟩=some (.string ⟨#[]⟩):=hd.cell (by go_cell) (by simp;omega)
 have z0:w1.frozen? ⟨w.heap.size,0,none⟩=false:=by rw [hd.frozen (by simp;omega) (by simp;omega)];rw [froz_two];simp
 have z1:w1.frozen? ⟨w.heap.size,1,none⟩=false:=by rw [hd.frozen (by simp;omega) (by simp;omega)];rw [froz_two];simp
 have HX:=hid (List.mem_of_getElem? hx)
 have HD:=hid hd
 clear hx hd g0 g1
 go_wp2
 refine bodyPost_ret (v:=.agg #[.string x.1,.string x.2]) (by simp [results,Tryz.results53,go_sem,r0,r1]) rfl ⟨x,HX.out,rfl,?_⟩
 exact ((((Drew.refl HT.out).alloc _).alloc _).trans HD.out |>.setCell hbt _ _ (Nat.le_refl _)).setCell hbt _ _ (Nat.le_refl _)
theorem ints_at (w:World) (l:List Int) (t:TypeId) (g:Nat) (hg:g=w.heap.size):∀ j u,l[j]?=some u→(w.alloc (.cells (l.map (Value.int .i64)).toArray t)).cell? ⟨g,j,none⟩=some (.int .i64 u):=by
 intro j u hu
 have:=cells_new w (l.map (Value.int .i64)) t j (.int .i64 u) (by simp [hu])
 rwa [addLit0,Nat.zero_add,←hg] at this
theorem units_any (bt:Nat) (w:World) (ht:IsTp w bt) :
  Calls Tryz.prog 28 #[.pointer (some ⟨bt,0,none⟩)] w fun e w'=>∃ u:Int,e=.returned (.int .i64 u)∧1≤u∧u≤1000000∧Drew w bt w':=by
 have hbt:=ht.lt
 go_enter Tryz.func28,Tryz.ntmps28
 go_wp2_with fail
 refine (next_any bt 20 _ ht (by omega) (by omega)).mono ?_
 rintro e w1 ⟨a,rfl,ha0,ha1,hd1⟩
 have HD1:=hid hd1
 clear hd1
 go_wp2_with fail
 refine (next_any bt 1000 _ HD1.out.1 (by omega) (by omega)).mono ?_
 rintro e w2 ⟨b,rfl,hb0,hb1,hd2⟩
 have HD2:=hid (HD1.out.trans hd2)
 clear hd2
 go_wp2_with fail
 refine (next_any bt 1000000 _ HD2.out.1 (by omega) (by omega)).mono ?_
 rintro e w3 ⟨c,rfl,hc0,hc1,hd3⟩
 have HD3:=hid (HD2.out.trans hd3)
 have hz3:=hd3.size
 have hz2:=HD2.out.size
 clear hd3
 go_wp2_with fail
 have HP:=hid (ints_at w3 [1,2,3,1+a,1+b,1+c] 3 w3.heap.size rfl)
 refine (pick_any bt w3.heap.size 6 6 [1,2,3,1+a,1+b,1+c] _ rfl (HD3.out.alloc _).1 (by omega) (by omega) (by omega) HP.out).mono ?_
 rintro e w4 ⟨u,hu,rfl,hd4⟩
 have HD4:=hid ((HD3.out.alloc _).trans hd4)
 have HU:=hid hu
 clear hd4 hu
 go_wp2
 go_ret
 have hu:=HU.out
 simp only [List.mem_cons,List.not_mem_nil,or_false] at hu
 exact ⟨u,rfl,by omega,by omega,HD4.out⟩
end Go.Proofs.YtooeabibhjbkoaaGreat
namespace Go.Proofs.YtooeabibhjbkoaaGreat
open Go.RowKit Reg Al Ga
namespace Ga
def keyO (i:Nat):ByteArray:=⟨#[111,UInt8.ofNat (97+i)]⟩
theorem keyO_name:∀ i,i<26→nameB (keyO i)=true:=by decide +kernel
theorem keyO_inj:∀ i,i<26→∀ j,j<26→keyO i=keyO j→i=j:=by
 have h:∀ i,i<26→∀ j,j<26→(keyO i).data.toList=(keyO j).data.toList→i=j:=by decide +kernel
 intro i hi j hj e
 exact h i hi j hj (by rw [e])
theorem keyO_of (i:Nat) (h:i<26):(⟨#[111]⟩:ByteArray)++strOfNums [97+(i:Int)]=keyO i:=by
 have:(97+(i:Int)).toNat=97+i:=by omega
 unfold strOfNums keyO
 rw [List.map_cons,List.map_nil,this]
 rfl
def sAlpha:ByteArray:=⟨#[97,108,112,104,97]⟩
def sA:ByteArray:=⟨#[97]⟩
structure MadeA (o:Od):Prop where
 kind:1≤o.kind∧o.kind≤5
 ask:askO o=true
 amount:0≤o.amount∧o.amount≤100000000
 units:0≤o.units∧o.units≤1000000
structure MadeT (i:Nat) (x:Tk):Prop where
 key:x.o.key=keyO i
 acc:(x.o.nom,x.o.hol)∈accs
 fund:x.o.fund=sAlpha
 cls:x.o.cls=sA
 ask:MadeA x.o
 at_:0≤x.o.at_∧x.o.at_<100000
 known:x.o.known=(i:Int)+1
 void:x.o.void=false
 day:0≤x.day∧x.day<60
 first:0≤x.first∧x.first≤x.day
def MadeTs (most:Nat) (l:List Tk):Prop:=l.length≤most∧∀ k x,l[k]?=some x→MadeT k x
theorem made_ok {i:Nat} {x:Tk} (h:MadeT i x) (hi:i<26):okO x.o=true:=by
 unfold okO headO
 rw [h.key,keyO_name i hi,inR_of h.at_.1 (by have:=h.at_.2;omega),inR_of (by rw [h.known];omega) (by rw [h.known];omega),accs_ok _ h.acc,h.fund,h.cls,h.ask.ask]
 decide +kernel
end Ga
end Go.Proofs.YtooeabibhjbkoaaGreat
set_option maxHeartbeats 8000000
namespace Go.Proofs.YtooeabibhjbkoaaGreat
open Go.RowKit Reg Al Ga
open Lib (hid)
theorem below_drew' {B:Nat} {a b:World} (h:Below B a b):Below B a b.drew:=⟨h.os,h.tape,h.output,h.size,h.block⟩
theorem At.drw {w w':World} {b o bt:Nat} {cs:List Value} (h:At w b o cs) (hd:Drew w bt w') (hne:b≠bt):At w' b o cs:=by
 have hk:=hd.2.block b h.lt (fun e=>hne (by injection e))
 refine ⟨fun j v hj=>?_,fun j hj=>?_,Nat.lt_of_lt_of_le h.lt hd.2.size⟩
 ·rw [World.cell?_of_block (w:=w) hk];exact h.range j v hj
 ·rw [World.cell?_of_block (w:=w) hk,World.frozen?_of_block (w:=w) hk];exact h.there j hj
theorem At.oneSet {w:World} {O k:Nat} {cs:List Value} {v:Value} (h:At w O 0 cs) (hk:k<cs.length):At (w.setCell ⟨O,k,none⟩ v) O 0 (cs.set k v):=by
 have hc:∀ j u,(cs.set k v)[j]?=some u→(w.setCell ⟨O,k,none⟩ v).cell? ⟨O,0+j,none⟩=some u:=by
  intro j u hj
  rw [Nat.zero_add]
  by_cases e:j=k
  ·subst e
   rw [List.getElem?_set_self hk] at hj
   injection hj with hj
   subst hj
   have:=h.range j _ (List.getElem?_eq_getElem hk)
   rw [Nat.zero_add] at this
   exact World.cell?_setCell_same _ _ _ this
  ·rw [List.getElem?_set_ne (fun e2=>e e2.symm)] at hj
   rw [World.cell?_setCell_other _ _ _ _ (fun e2=>by injection e2 with e3 e4;omega)]
   have:=h.range j u hj
   rwa [Nat.zero_add] at this
 refine ⟨hc,fun j hj=>?_,by simpa [World.setCell] using h.lt⟩
 rw [hc j _ (List.getElem?_eq_getElem hj)]
 refine ⟨rfl,?_⟩
 rw [World.frozen?_setCell]
 rw [List.length_set] at hj
 exact (h.there j hj).2
theorem At.othSet {w:World} {b o:Nat} {cs:List Value} (h:At w b o cs) (p:Addr) (v:Value) (hp:p.block≠b):At (w.setCell p v) b o cs:=by
 refine ⟨fun j u hj=>?_,fun j hj=>?_,by simpa [World.setCell] using h.lt⟩
 ·rw [World.cell?_setCell_other _ _ _ _ (fun e=>hp (congrArg Addr.block e))];exact h.range j u hj
 ·rw [World.cell?_setCell_other _ _ _ _ (fun e=>hp (congrArg Addr.block e)),World.frozen?_setCell];exact h.there j hj
theorem At.frz {w:World} {O k:Nat} {cs:List Value} (h:At w O 0 cs) (hk:k<cs.length):w.frozen? ⟨O,k,none⟩=false:=by
 have:=(h.there k hk).2
 rwa [Nat.zero_add] at this
theorem At.cel {w:World} {O k:Nat} {v:Value} {cs:List Value} (h:At w O 0 cs) (hk:cs[k]?=some v):w.cell? ⟨O,k,none⟩=some v:=by
 have:=h.range k v hk
 rwa [Nat.zero_add] at this
theorem At.allSet {w:World} {b:Nat} {cs ds:List Value} (h:At w b 0 cs) (hl:ds.length=cs.length):At (w.setCells b 0 ds) b 0 ds:=by
 have hr:=World.rangeAt_setCells_same w b 0 ds (by rw [hl];exact h.there)
 refine ⟨hr,fun j hj=>⟨?_,by rw [frozen_sets];exact (h.there j (by omega)).2⟩,by rw [size_sets];exact h.lt⟩
 rw [hr j _ (List.getElem?_eq_getElem hj)];rfl
theorem Drew.sets {w w':World} {bt b:Nat} (h:Drew w bt w') (hbt:bt<w.heap.size) (hb:w.heap.size≤b) (ds:List Value):Drew w bt (w'.setCells b 0 ds):=by
 have h2:=below_sets (B:=b) (b:=b) (Nat.le_refl _) ds 0 w' (Below.refl _ _)
 have hg:w'.grownBy (w'.setCells b 0 ds) (some b):=⟨h2.os,h2.tape,h2.output,h2.size,fun k hk hr=>heap_sets k b (fun e=>hr (by rw [e])) ds 0 w'⟩
 exact ⟨h.1.grown hg (fun k hk=>by injection hk with hk;omega),h2.os.trans h.2.os,h2.tape.trans h.2.tape,h2.output.trans h.2.output,Nat.le_trans h.2.size h2.size,fun k hk hr=>(h2.block k (by omega)).trans (h.2.block k hk hr)⟩
theorem asked_any (bt:Nat) (o:Od) (w:World) (ht:IsTp w bt) :
  Calls Tryz.prog 52 #[.pointer (some ⟨bt,0,none⟩),.agg #[.string o.key,.string o.nom,.string o.hol,.string o.fund,.string o.cls,.int .i64 0,.int .i64 0,.int .i64 0,.int .i64 o.at_,.int .i64 o.known,.bool o.void]] w fun e w'=>∃ k a u:Int,e=.returned (.agg #[.string o.key,.string o.nom,.string o.hol,.string o.fund,.string o.cls,.int .i64 k,.int .i64 a,.int .i64 u,.int .i64 o.at_,.int .i64 o.known,.bool o.void])∧MadeA { o with kind:=k,amount:=a,units:=u }∧Drew w bt w':=by
 have hbt:=ht.lt
 obtain ⟨X,hX⟩:∃ X,X=w.heap.size:=⟨_,rfl⟩
 obtain ⟨w0,hw0⟩:∃ w0,w0=(w.alloc (.cells #[.string o.key,.string o.nom,.string o.hol,.string o.fund,.string o.cls,.int .i64 0,.int .i64 0,.int .i64 0,.int .i64 o.at_,.int .i64 o.known,.bool o.void] 63)).alloc (.cells #[.string ⟨#[]⟩,.string ⟨#[]⟩,.string ⟨#[]⟩,.string ⟨#[]⟩,.string ⟨#[]⟩,.int .i64 0,.int .i64 0,.int .i64 0,.int .i64 0,.int .i64 0,.bool false] 63):=⟨_,rfl⟩
 have A0:=hid (show At w0 X 0 [.string o.key,.string o.nom,.string o.hol,.string o.fund,.string o.cls,.int .i64 0,.int .i64 0,.int .i64 0,.int .i64 o.at_,.int .i64 o.known,.bool o.void] by rw [hw0];exact (At.fresh w [.string o.key,.string o.nom,.string o.hol,.string o.fund,.string o.cls,.int .i64 0,.int .i64 0,.int .i64 0,.int .i64 o.at_,.int .i64 o.known,.bool o.void] _ hX).alloc _)
 have A1:=hid (show At w0 (X+1) 0 [.string ⟨#[]⟩,.string ⟨#[]⟩,.string ⟨#[]⟩,.string ⟨#[]⟩,.string ⟨#[]⟩,.int .i64 0,.int .i64 0,.int .i64 0,.int .i64 0,.int .i64 0,.bool false] by rw [hw0];exact At.fresh _ [.string ⟨#[]⟩,.string ⟨#[]⟩,.string ⟨#[]⟩,.string ⟨#[]⟩,.string ⟨#[]⟩,.int .i64 0,.int .i64 0,.int .i64 0,.int .i64 0,.int .i64 0,.bool false] _ (by simp [hX]))
 have D0:=hid (show Drew w bt w0 by rw [hw0];exact ((Drew.refl ht).alloc _).alloc _)
 have hbX:bt<X:=by omega
 have HX:=hid hX
 have SZ:=hid (show (Tryz.prog.info? 63).map (·.size)=some 11 by kernel_rfl)
 go_enter Tryz.func52,Tryz.ntmps52
 go_upto_region 1 with fail
 rw [←hw0,←hX]
 clear hw0 hX ht
 go_wp2_with fail
 refine (next_any bt 5 w0 D0.out.1 (by omega) (by omega)).mono ?_
 rintro e w1 ⟨v,rfl,hv0,hv1,hd⟩
 obtain ⟨k,hk⟩:∃ k,k=1+v:=⟨_,rfl⟩
 have wk:IntKind.i64.wrap (1+v)=k:=by rw [IntWalk.i64_in _ (by omega)];exact hk.symm
 have hkb:k=1∨k=2∨k=3∨k=4∨k=5:=by omega
 replace A0:=hid (A0.out.drw hd (by omega))
 replace A1:=hid (A1.out.drw hd (by omega))
 replace D0:=hid (D0.out.trans hd)
 have f5:=A0.out.cel (k:=5) rfl
 have z5:=A0.out.frz (k:=5) (by show 5<11;decide)
 clear hd hk hv0 hv1
 go_upto_region 2 with fail
 obtain ⟨w2,hw2⟩:∃ w2,w2=w1.setCell ⟨X,5,none⟩ (.int .i64 k):=⟨_,rfl⟩
 rw [←hw2]
 replace A0:=hid (show At w2 X 0 [.string o.key,.string o.nom,.string o.hol,.string o.fund,.string o.cls,.int .i64 k,.int .i64 0,.int .i64 0,.int .i64 o.at_,.int .i64 o.known,.bool o.void] by rw [hw2];exact A0.out.oneSet (k:=5) (by show 5<11;decide))
 replace A1:=hid (show At w2 (X+1) 0 [.string ⟨#[]⟩,.string ⟨#[]⟩,.string ⟨#[]⟩,.string ⟨#[]⟩,.string ⟨#[]⟩,.int .i64 0,.int .i64 0,.int .i64 0,.int .i64 0,.int .i64 0,.bool false] by rw [hw2];exact A1.out.othSet _ _ (by show X≠X+1;omega))
 replace D0:=hid (show Drew w bt w2 by rw [hw2];exact D0.out.setCell hbt _ _ (by rw [←HX.out];exact Nat.le_refl X))
 replace f5:=A0.out.cel (k:=5) rfl
 clear hw2 z5 wk
 rcases hkb with rfl|rfl|rfl|rfl|rfl
 ·go_wp2_with fail
  refine (next_any bt 100000 w2 D0.out.1 (by omega) (by omega)).mono ?_
  rintro e w3 ⟨x,rfl,hx0,hx1,hd⟩
  replace A0:=hid (A0.out.drw hd (by omega))
  replace A1:=hid (A1.out.drw hd (by omega))
  replace D0:=hid (D0.out.trans hd)
  clear hd f5
  go_wp2_with fail
  refine (next_any bt 100000000 w3 D0.out.1 (by omega) (by omega)).mono ?_
  rintro e w4 ⟨y,rfl,hy0,hy1,hd⟩
  replace A0:=hid (A0.out.drw hd (by omega))
  replace A1:=hid (A1.out.drw hd (by omega))
  replace D0:=hid (D0.out.trans hd)
  have hz4:=A1.out.lt
  clear hd
  go_wp2_with fail
  have HP:=hid (ints_at w4 [1,99,1000,1+x,1+y] 3 w4.heap.size rfl)
  refine (pick_any bt w4.heap.size 5 5 [1,99,1000,1+x,1+y] _ rfl (D0.out.alloc _).1 (by omega) (by omega) (by omega) HP.out).mono ?_
  rintro e w5 ⟨s,hs,rfl,hd⟩
  have hsb:1≤s∧s≤100000000:=by
   simp only [List.mem_cons,List.not_mem_nil,or_false] at hs;omega
  replace A0:=hid ((A0.out.alloc _).drw hd (by omega))
  replace A1:=hid ((A1.out.alloc _).drw hd (by omega))
  replace D0:=hid ((D0.out.alloc _).trans hd)
  have g6:=A0.out.cel (k:=6) rfl
  have z6:=A0.out.frz (k:=6) (by show 6<11;decide)
  clear hd hs HP
  go_upto_region 9 with fail
  obtain ⟨w6,hw6⟩:∃ w6,w6=w5.setCell ⟨X,6,none⟩ (.int .i64 s):=⟨_,rfl⟩
  rw [←hw6]
  replace A0:=hid (show At w6 X 0 [.string o.key,.string o.nom,.string o.hol,.string o.fund,.string o.cls,.int .i64 1,.int .i64 s,.int .i64 0,.int .i64 o.at_,.int .i64 o.known,.bool o.void] by rw [hw6];exact A0.out.oneSet (k:=6) (by show 6<11;decide))
  replace A1:=hid (show At w6 (X+1) 0 [.string ⟨#[]⟩,.string ⟨#[]⟩,.string ⟨#[]⟩,.string ⟨#[]⟩,.string ⟨#[]⟩,.int .i64 0,.int .i64 0,.int .i64 0,.int .i64 0,.int .i64 0,.bool false] by rw [hw6];exact A1.out.othSet _ _ (by show X≠X+1;omega))
  replace D0:=hid (show Drew w bt w6 by rw [hw6];exact D0.out.setCell hbt _ _ (by rw [←HX.out];exact Nat.le_refl X))
  clear hw6 g6 z6 hz4
  have HM:=hid (show MadeA { o with kind:=1,amount:=s,units:=0 } from ⟨⟨show (1:Int)≤1 by decide,show (1:Int)≤5 by decide⟩,by unfold askO;simp [inR];omega,by show 0≤s∧s≤100000000;omega,by show 0≤(0:Int)∧(0:Int)≤1000000;omega⟩)
  obtain ⟨cs,hcs⟩:∃ cs:List Value,cs=[.string o.key,.string o.nom,.string o.hol,.string o.fund,.string o.cls,.int .i64 1,.int .i64 s,.int .i64 0,.int .i64 o.at_,.int .i64 o.known,.bool o.void]:=⟨_,rfl⟩
  have HQl:=hid hcs
  have A0:=hid (show At w6 X 0 cs by rw [hcs];exact A0.out)
  have HR:=hid A0.out.range
  have hln:cs.length=11:=by rw [hcs];rfl
  have HTH:=hid (show w6.there (X+1) 0 cs.toArray.size by rw [List.size_toArray,hln];exact A1.out.there)
  have HS2:=hid (show (Tryz.prog.info? 63).map (·.size)=some cs.toArray.size by rw [List.size_toArray,hln];exact SZ.out)
  have HS1:=hid (show (Tryz.prog.info? 63).map (·.size)=some cs.length by rw [hln];exact SZ.out)
  have HO2:=hid (show cs.toArray.all (·.oneCell')=true by rw [hcs];simp [Value.oneCell'])
  have HE:=hid (A1.out.allSet (ds:=cs) (by rw [hln];rfl))
  have DE:=hid (D0.out.sets hbt (b:=X+1) (by rw [←HX.out];omega) cs)
  clear hcs hln
  go_wp2_with (first|(refine wpList_load_mid rfl _ _ rfl X 0 rfl cs _ HR.out Tryz.underlying63 rfl HS1.out ?_)|(refine wpList_store_mid rfl _ _ _ rfl (X+1) 0 cs.toArray rfl rfl HTH.out HS2.out HO2.out ?_))
  have hld:=HE.out.read (P:=Tryz.prog) Tryz.underlying63 rfl HS1.out
  refine bodyPost_ret (v:=.agg cs.toArray) (by simp [results,Tryz.results52,asAddr,hld,Act.put]) rfl ?_
  exact ⟨1,s,0,by rw [HQl.out],HM.out,DE.out⟩
 ·go_wp2_with fail
  refine (units_any bt w2 D0.out.1).mono ?_
  rintro e w5 ⟨s,rfl,hs1,hs2,hd⟩
  replace A0:=hid (A0.out.drw hd (by omega))
  replace A1:=hid (A1.out.drw hd (by omega))
  replace D0:=hid (D0.out.trans hd)
  have g7:=A0.out.cel (k:=7) rfl
  have z7:=A0.out.frz (k:=7) (by show 7<11;decide)
  clear hd f5
  go_upto_region 9 with fail
  obtain ⟨w6,hw6⟩:∃ w6,w6=w5.setCell ⟨X,7,none⟩ (.int .i64 s):=⟨_,rfl⟩
  rw [←hw6]
  replace A0:=hid (show At w6 X 0 [.string o.key,.string o.nom,.string o.hol,.string o.fund,.string o.cls,.int .i64 2,.int .i64 0,.int .i64 s,.int .i64 o.at_,.int .i64 o.known,.bool o.void] by rw [hw6];exact A0.out.oneSet (k:=7) (by show 7<11;decide))
  replace A1:=hid (show At w6 (X+1) 0 [.string ⟨#[]⟩,.string ⟨#[]⟩,.string ⟨#[]⟩,.string ⟨#[]⟩,.string ⟨#[]⟩,.int .i64 0,.int .i64 0,.int .i64 0,.int .i64 0,.int .i64 0,.bool false] by rw [hw6];exact A1.out.othSet _ _ (by show X≠X+1;omega))
  replace D0:=hid (show Drew w bt w6 by rw [hw6];exact D0.out.setCell hbt _ _ (by rw [←HX.out];exact Nat.le_refl X))
  clear hw6 g7 z7
  have HM:=hid (show MadeA { o with kind:=2,amount:=0,units:=s } from ⟨⟨show (1:Int)≤2 by decide,show (2:Int)≤5 by decide⟩,by unfold askO;simp [inR];omega,by show 0≤(0:Int)∧(0:Int)≤100000000;omega,by show 0≤s∧s≤1000000;omega⟩)
  obtain ⟨cs,hcs⟩:∃ cs:List Value,cs=[.string o.key,.string o.nom,.string o.hol,.string o.fund,.string o.cls,.int .i64 2,.int .i64 0,.int .i64 s,.int .i64 o.at_,.int .i64 o.known,.bool o.void]:=⟨_,rfl⟩
  have HQl:=hid hcs
  have A0:=hid (show At w6 X 0 cs by rw [hcs];exact A0.out)
  have HR:=hid A0.out.range
  have hln:cs.length=11:=by rw [hcs];rfl
  have HTH:=hid (show w6.there (X+1) 0 cs.toArray.size by rw [List.size_toArray,hln];exact A1.out.there)
  have HS2:=hid (show (Tryz.prog.info? 63).map (·.size)=some cs.toArray.size by rw [List.size_toArray,hln];exact SZ.out)
  have HS1:=hid (show (Tryz.prog.info? 63).map (·.size)=some cs.length by rw [hln];exact SZ.out)
  have HO2:=hid (show cs.toArray.all (·.oneCell')=true by rw [hcs];simp [Value.oneCell'])
  have HE:=hid (A1.out.allSet (ds:=cs) (by rw [hln];rfl))
  have DE:=hid (D0.out.sets hbt (b:=X+1) (by rw [←HX.out];omega) cs)
  clear hcs hln
  go_wp2_with (first|(refine wpList_load_mid rfl _ _ rfl X 0 rfl cs _ HR.out Tryz.underlying63 rfl HS1.out ?_)|(refine wpList_store_mid rfl _ _ _ rfl (X+1) 0 cs.toArray rfl rfl HTH.out HS2.out HO2.out ?_))
  have hld:=HE.out.read (P:=Tryz.prog) Tryz.underlying63 rfl HS1.out
  refine bodyPost_ret (v:=.agg cs.toArray) (by simp [results,Tryz.results52,asAddr,hld,Act.put]) rfl ?_
  exact ⟨2,0,s,by rw [HQl.out],HM.out,DE.out⟩
 ·go_wp2_with fail
  refine (units_any bt w2 D0.out.1).mono ?_
  rintro e w5 ⟨s,rfl,hs1,hs2,hd⟩
  replace A0:=hid (A0.out.drw hd (by omega))
  replace A1:=hid (A1.out.drw hd (by omega))
  replace D0:=hid (D0.out.trans hd)
  have g7:=A0.out.cel (k:=7) rfl
  have z7:=A0.out.frz (k:=7) (by show 7<11;decide)
  clear hd f5
  go_upto_region 9 with fail
  obtain ⟨w6,hw6⟩:∃ w6,w6=w5.setCell ⟨X,7,none⟩ (.int .i64 s):=⟨_,rfl⟩
  rw [←hw6]
  replace A0:=hid (show At w6 X 0 [.string o.key,.string o.nom,.string o.hol,.string o.fund,.string o.cls,.int .i64 3,.int .i64 0,.int .i64 s,.int .i64 o.at_,.int .i64 o.known,.bool o.void] by rw [hw6];exact A0.out.oneSet (k:=7) (by show 7<11;decide))
  replace A1:=hid (show At w6 (X+1) 0 [.string ⟨#[]⟩,.string ⟨#[]⟩,.string ⟨#[]⟩,.string ⟨#[]⟩,.string ⟨#[]⟩,.int .i64 0,.int .i64 0,.int .i64 0,.int .i64 0,.int .i64 0,.bool false] by rw [hw6];exact A1.out.othSet _ _ (by show X≠X+1;omega))
  replace D0:=hid (show Drew w bt w6 by rw [hw6];exact D0.out.setCell hbt _ _ (by rw [←HX.out];exact Nat.le_refl X))
  clear hw6 g7 z7
  have HM:=hid (show MadeA { o with kind:=3,amount:=0,units:=s } from ⟨⟨show (1:Int)≤3 by decide,show (3:Int)≤5 by decide⟩,by unfold askO;simp [inR];omega,by show 0≤(0:Int)∧(0:Int)≤100000000;omega,by show 0≤s∧s≤1000000;omega⟩)
  obtain ⟨cs,hcs⟩:∃ cs:List Value,cs=[.string o.key,.string o.nom,.string o.hol,.string o.fund,.string o.cls,.int .i64 3,.int .i64 0,.int .i64 s,.int .i64 o.at_,.int .i64 o.known,.bool o.void]:=⟨_,rfl⟩
  have HQl:=hid hcs
  have A0:=hid (show At w6 X 0 cs by rw [hcs];exact A0.out)
  have HR:=hid A0.out.range
  have hln:cs.length=11:=by rw [hcs];rfl
  have HTH:=hid (show w6.there (X+1) 0 cs.toArray.size by rw [List.size_toArray,hln];exact A1.out.there)
  have HS2:=hid (show (Tryz.prog.info? 63).map (·.size)=some cs.toArray.size by rw [List.size_toArray,hln];exact SZ.out)
  have HS1:=hid (show (Tryz.prog.info? 63).map (·.size)=some cs.length by rw [hln];exact SZ.out)
  have HO2:=hid (show cs.toArray.all (·.oneCell')=true by rw [hcs];simp [Value.oneCell'])
  have HE:=hid (A1.out.allSet (ds:=cs) (by rw [hln];rfl))
  have DE:=hid (D0.out.sets hbt (b:=X+1) (by rw [←HX.out];omega) cs)
  clear hcs hln
  go_wp2_with (first|(refine wpList_load_mid rfl _ _ rfl X 0 rfl cs _ HR.out Tryz.underlying63 rfl HS1.out ?_)|(refine wpList_store_mid rfl _ _ _ rfl (X+1) 0 cs.toArray rfl rfl HTH.out HS2.out HO2.out ?_))
  have hld:=HE.out.read (P:=Tryz.prog) Tryz.underlying63 rfl HS1.out
  refine bodyPost_ret (v:=.agg cs.toArray) (by simp [results,Tryz.results52,asAddr,hld,Act.put]) rfl ?_
  exact ⟨3,0,s,by rw [HQl.out],HM.out,DE.out⟩
 ·go_wp2_with fail
  refine (next_any bt 100000 w2 D0.out.1 (by omega) (by omega)).mono ?_
  rintro e w3 ⟨x,rfl,hx0,hx1,hd⟩
  replace A0:=hid (A0.out.drw hd (by omega))
  replace A1:=hid (A1.out.drw hd (by omega))
  replace D0:=hid (D0.out.trans hd)
  clear hd f5
  go_wp2_with fail
  refine (next_any bt 100000000 w3 D0.out.1 (by omega) (by omega)).mono ?_
  rintro e w4 ⟨y,rfl,hy0,hy1,hd⟩
  replace A0:=hid (A0.out.drw hd (by omega))
  replace A1:=hid (A1.out.drw hd (by omega))
  replace D0:=hid (D0.out.trans hd)
  have hz4:=A1.out.lt
  clear hd
  go_wp2_with fail
  have HP:=hid (ints_at w4 [1,99,1000,1+x,1+y] 3 w4.heap.size rfl)
  refine (pick_any bt w4.heap.size 5 5 [1,99,1000,1+x,1+y] _ rfl (D0.out.alloc _).1 (by omega) (by omega) (by omega) HP.out).mono ?_
  rintro e w5 ⟨s,hs,rfl,hd⟩
  have hsb:1≤s∧s≤100000000:=by
   simp only [List.mem_cons,List.not_mem_nil,or_false] at hs;omega
  replace A0:=hid ((A0.out.alloc _).drw hd (by omega))
  replace A1:=hid ((A1.out.alloc _).drw hd (by omega))
  replace D0:=hid ((D0.out.alloc _).trans hd)
  have g6:=A0.out.cel (k:=6) rfl
  have z6:=A0.out.frz (k:=6) (by show 6<11;decide)
  clear hd hs HP
  go_upto_region 9 with fail
  obtain ⟨w6,hw6⟩:∃ w6,w6=w5.setCell ⟨X,6,none⟩ (.int .i64 s):=⟨_,rfl⟩
  rw [←hw6]
  replace A0:=hid (show At w6 X 0 [.string o.key,.string o.nom,.string o.hol,.string o.fund,.string o.cls,.int .i64 4,.int .i64 s,.int .i64 0,.int .i64 o.at_,.int .i64 o.known,.bool o.void] by rw [hw6];exact A0.out.oneSet (k:=6) (by show 6<11;decide))
  replace A1:=hid (show At w6 (X+1) 0 [.string ⟨#[]⟩,.string ⟨#[]⟩,.string ⟨#[]⟩,.string ⟨#[]⟩,.string ⟨#[]⟩,.int .i64 0,.int .i64 0,.int .i64 0,.int .i64 0,.int .i64 0,.bool false] by rw [hw6];exact A1.out.othSet _ _ (by show X≠X+1;omega))
  replace D0:=hid (show Drew w bt w6 by rw [hw6];exact D0.out.setCell hbt _ _ (by rw [←HX.out];exact Nat.le_refl X))
  clear hw6 g6 z6 hz4
  have HM:=hid (show MadeA { o with kind:=4,amount:=s,units:=0 } from ⟨⟨show (1:Int)≤4 by decide,show (4:Int)≤5 by decide⟩,by unfold askO;simp [inR];omega,by show 0≤s∧s≤100000000;omega,by show 0≤(0:Int)∧(0:Int)≤1000000;omega⟩)
  obtain ⟨cs,hcs⟩:∃ cs:List Value,cs=[.string o.key,.string o.nom,.string o.hol,.string o.fund,.string o.cls,.int .i64 4,.int .i64 s,.int .i64 0,.int .i64 o.at_,.int .i64 o.known,.bool o.void]:=⟨_,rfl⟩
  have HQl:=hid hcs
  have A0:=hid (show At w6 X 0 cs by rw [hcs];exact A0.out)
  have HR:=hid A0.out.range
  have hln:cs.length=11:=by rw [hcs];rfl
  have HTH:=hid (show w6.there (X+1) 0 cs.toArray.size by rw [List.size_toArray,hln];exact A1.out.there)
  have HS2:=hid (show (Tryz.prog.info? 63).map (·.size)=some cs.toArray.size by rw [List.size_toArray,hln];exact SZ.out)
  have HS1:=hid (show (Tryz.prog.info? 63).map (·.size)=some cs.length by rw [hln];exact SZ.out)
  have HO2:=hid (show cs.toArray.all (·.oneCell')=true by rw [hcs];simp [Value.oneCell'])
  have HE:=hid (A1.out.allSet (ds:=cs) (by rw [hln];rfl))
  have DE:=hid (D0.out.sets hbt (b:=X+1) (by rw [←HX.out];omega) cs)
  clear hcs hln
  go_wp2_with (first|(refine wpList_load_mid rfl _ _ rfl X 0 rfl cs _ HR.out Tryz.underlying63 rfl HS1.out ?_)|(refine wpList_store_mid rfl _ _ _ rfl (X+1) 0 cs.toArray rfl rfl HTH.out HS2.out HO2.out ?_))
  have hld:=HE.out.read (P:=Tryz.prog) Tryz.underlying63 rfl HS1.out
  refine bodyPost_ret (v:=.agg cs.toArray) (by simp [results,Tryz.results52,asAddr,hld,Act.put]) rfl ?_
  exact ⟨4,s,0,by rw [HQl.out],HM.out,DE.out⟩
 ·have HM:=hid (show MadeA { o with kind:=5,amount:=0,units:=0 } from ⟨⟨show (1:Int)≤5 by decide,show (5:Int)≤5 by decide⟩,by unfold askO;simp,by show 0≤(0:Int)∧(0:Int)≤100000000;omega,by show 0≤(0:Int)∧(0:Int)≤1000000;omega⟩)
  go_upto_region 9 with fail
  obtain ⟨cs,hcs⟩:∃ cs:List Value,cs=[.string o.key,.string o.nom,.string o.hol,.string o.fund,.string o.cls,.int .i64 5,.int .i64 0,.int .i64 0,.int .i64 o.at_,.int .i64 o.known,.bool o.void]:=⟨_,rfl⟩
  have HQl:=hid hcs
  have A0:=hid (show At w2 X 0 cs by rw [hcs];exact A0.out)
  have HR:=hid A0.out.range
  have hln:cs.length=11:=by rw [hcs];rfl
  have HTH:=hid (show w2.there (X+1) 0 cs.toArray.size by rw [List.size_toArray,hln];exact A1.out.there)
  have HS2:=hid (show (Tryz.prog.info? 63).map (·.size)=some cs.toArray.size by rw [List.size_toArray,hln];exact SZ.out)
  have HS1:=hid (show (Tryz.prog.info? 63).map (·.size)=some cs.length by rw [hln];exact SZ.out)
  have HO2:=hid (show cs.toArray.all (·.oneCell')=true by rw [hcs];simp [Value.oneCell'])
  have HE:=hid (A1.out.allSet (ds:=cs) (by rw [hln];rfl))
  have DE:=hid (D0.out.sets hbt (b:=X+1) (by rw [←HX.out];omega) cs)
  clear hcs hln
  go_wp2_with (first|(refine wpList_load_mid rfl _ _ rfl X 0 rfl cs _ HR.out Tryz.underlying63 rfl HS1.out ?_)|(refine wpList_store_mid rfl _ _ _ rfl (X+1) 0 cs.toArray rfl rfl HTH.out HS2.out HO2.out ?_))
  have hld:=HE.out.read (P:=Tryz.prog) Tryz.underlying63 rfl HS1.out
  refine bodyPost_ret (v:=.agg cs.toArray) (by simp [results,Tryz.results52,asAddr,hld,Act.put]) rfl ?_
  exact ⟨5,0,0,by rw [HQl.out],HM.out,DE.out⟩
end Go.Proofs.YtooeabibhjbkoaaGreat
