import Derived.Test.YtooeabibhjbkoaaGreatRegC
import Derived.Test.YtooeabibhjbkoaaGreatAlB
import Derived.StillTailTactics
set_option linter.unusedVariables false
set_option linter.unusedSimpArgs false
set_option maxRecDepth 100000
namespace Go.Proofs.YtooeabibhjbkoaaGreat
open Go.RowKit Reg Al
namespace Ga
structure Rq where
 key:ByteArray
 units:Int
 value:Int
def Rq.cells (b:Rq):List Value:=[.string b.key,.int .i64 b.units,.int .i64 b.value]
def cellsQ (l:List Rq):List Value:=l.flatMap Rq.cells
theorem cellsQ_get (l:List Rq) (k:Nat) (b:Rq) (h:l[k]?=some b):∀ j u,b.cells[j]?=some u→(cellsQ l)[k*3+j]?=some u:=by
 induction l generalizing k with
 | nil=>simp at h
 | cons a l ih =>
  intro j u hu
  have hj:j<3:=by have:=(List.getElem?_eq_some_iff.1 hu).1;simpa [Rq.cells] using this
  cases k with
  | zero =>
   simp only [List.getElem?_cons_zero,Option.some.injEq] at h
   subst h
   rw [cellsQ,List.flatMap_cons,List.getElem?_append_left (by simp [Rq.cells];omega),Nat.zero_mul,Nat.zero_add];exact hu
  | succ k =>
   rw [cellsQ,List.flatMap_cons,List.getElem?_append_right (by simp [Rq.cells];omega)]
   have:=ih k (by simpa using h) j u hu
   rw [cellsQ] at this
   rw [←this];congr 1;simp [Rq.cells];omega
def okQ (b:Rq):Bool:=nameB b.key&&inR b.units 1 1000000000000000&&inR b.value 0 1000000000000000
def okAtQ (l:List Rq) (k:Nat):Bool:=match l[k]? with
 | some b=>okQ b&&!((l.take k).any fun c=>decide (c.key=b.key))
 | none=>true
def okLQ (l:List Rq):Bool:=(List.range l.length).all fun k=>okAtQ l k
def checkQ (l:List Rq):Bool:=decide (l.length≤64)&&okLQ l
theorem okLQ_yes {l:List Rq} (h:∀ k,k<l.length→okAtQ l k=true):okLQ l=true:=by
 unfold okLQ;rw [List.all_eq_true];intro k hk;exact h k (List.mem_range.1 hk)
theorem okLQ_no {l:List Rq} {k:Nat} (hk:k<l.length) (h:okAtQ l k=false):okLQ l=false:=by
 unfold okLQ;rw [List.all_eq_false];exact ⟨k,List.mem_range.2 hk,by rw [h];simp⟩
theorem okLQ_at {l:List Rq} (h:okLQ l=true) {k:Nat} (hk:k<l.length):okAtQ l k=true:=by
 unfold okLQ at h;rw [List.all_eq_true] at h;exact h k (List.mem_range.2 hk)
theorem check_mem {l:List Rq} (h:checkQ l=true) {x:Rq} (hx:x∈l):1≤x.units∧x.units≤1000000000000000∧0≤x.value∧x.value≤1000000000000000:=by
 obtain ⟨k,hk⟩:=List.mem_iff_getElem?.1 hx
 unfold checkQ at h
 rw [Bool.and_eq_true] at h
 have:=okLQ_at h.2 (List.getElem?_eq_some_iff.1 hk).1
 rw [okAtQ,hk] at this
 simp only [okQ,Bool.and_eq_true] at this
 have h1:=inR_yes this.1.1.2
 have h2:=inR_yes this.1.2
 exact ⟨h1.1,h1.2,h2.1,h2.2⟩
theorem check_len {l:List Rq} (h:checkQ l=true):l.length≤64:=by
 unfold checkQ at h;rw [Bool.and_eq_true] at h;exact of_decide_eq_true h.1
end Ga
open Ga
def RqsAt (w:World) (v:Value) (l:List Rq):Prop:=Rd w 3 v l.length (cellsQ l)
theorem RqsAt.below {w w':World} {v:Value} {l:List Rq} (h:RqsAt w v l) (hb:Below w.heap.size w w'):RqsAt w' v l:=Rd.below h hb
def QAt (w:World) (g o:Nat) (x:Rq):Prop:=w.cell? ⟨g,o,none⟩=some (.string x.key)∧w.cell? ⟨g,o+1,none⟩=some (.int .i64 x.units)∧w.cell? ⟨g,o+2,none⟩=some (.int .i64 x.value)
theorem QAt.below {w w':World} {g o:Nat} {x:Rq} (h:QAt w g o x) (hb:Below w.heap.size w w'):QAt w' g o x:=⟨qcU h.1 hb,qcU h.2.1 hb,qcU h.2.2 hb⟩
theorem rqs_some {w:World} {v:Value} {l:List Rq} (h:RqsAt w v l) (hn:0<l.length):∃ g off cap,v=.slice (some ⟨g,off,none⟩) l.length cap∧∀ k x,l[k]?=some x→QAt w g (off+k*3) x:=by
 obtain ⟨h1,h2,A,cap,hv,h3⟩:=h
 obtain ⟨g,off,ha,hc⟩:=h3 hn
 subst ha
 refine ⟨g,off,cap,hv,fun k x hx=>?_⟩
 have c:=cellsQ_get l k x hx
 exact ⟨hc _ _ (c 0 _ rfl),by rw [Nat.add_assoc];exact hc _ _ (c 1 _ rfl),by rw [Nat.add_assoc];exact hc _ _ (c 2 _ rfl)⟩
theorem rqs_lt {w:World} {g off:Nat} {l:List Rq} (h:∀ k x,l[k]?=some x→QAt w g (off+k*3) x) (hn:0<l.length):g<w.heap.size:=by
 have:=(h 0 _ (List.getElem?_eq_getElem hn)).1
 exact World.block_lt_of_cell? w _ this
theorem anyQ_take {l:List Rq} {k:Nat} (s:ByteArray):(((l.take k).map Rq.key).any fun t=>decide (t=s))=(l.take k).any fun c=>decide (c.key=s):=by
 rw [List.any_map];rfl
theorem nameB_small16 {s:ByteArray} (h:Reg.nameB s=true):s.size≤16:=by
 unfold Reg.nameB at h;simp only [Bool.and_eq_true,decide_eq_true_eq] at h;exact h.1.1.2
theorem onameC (s:ByteArray) (b:Bool) (h:Reg.nameB s=b) (w:World):Calls Tryz.prog 56 #[.string s] w fun e w'=>e=.returned (.bool b)∧Below w.heap.size w w':=by rw [←h];exact oname_any s w
theorem rnameQ (s:ByteArray) (b:Bool) (h:Reg.nameB s=b) (w:World):Calls Tryz.prog 70 #[.string s] w fun e w'=>e=.returned (.bool b)∧Below w.heap.size w w':=by rw [←h];exact rnameB_any s w
theorem wpQuiet_look_g {P:Program} {ops:Array Oper} {w:World} {Q:Act→Prop} {a:Act} {op:Oper} {rest:List Oper} {t:TypeId} {m k:Operand} {vm vk v:Value} (hgd:Region.wanted op (yielded ops a.tmps)=true) (ho:op.op=.lookup t m k false)
  (hm:a.eval m=vm) (hk:a.eval k=vk) (hl:∀ W,Below w.heap.size w W→(Instr.lookup t vm vk false).run P W=.ok v W)
  (h:wpQuiet P ops (fun w'=>∃ p:GB,w'=gw w p.d p.os) Q rest (a.put op.dst v)) :
  wpQuiet P ops (fun w'=>∃ p:GB,w'=gw w p.d p.os) Q (op::rest) a:=by
 refine wpQuiet_step (fun K hK=>?_)
 rw [if_pos hgd]
 refine ⟨v,fun W hW=>?_,hK _ h⟩
 obtain ⟨p,rfl⟩:=hW
 unfold Oper.quietAt execOp
 have:=hl _ (qbG w p.d p.os)
 simp only [ho,hm,hk,Sem.run_bind,Sem.run_pure,Result.andThen_ok,this]
 exact ⟨rfl,rfl⟩
end Go.Proofs.YtooeabibhjbkoaaGreat
namespace Go.Proofs.YtooeabibhjbkoaaGreat
open Go.RowKit Reg Al Ga
namespace Ga
structure Od where
 key:ByteArray
 nom:ByteArray
 hol:ByteArray
 fund:ByteArray
 cls:ByteArray
 kind:Int
 amount:Int
 units:Int
 at_:Int
 known:Int
 void:Bool
def Od.cells (o:Od):List Value:=[.string o.key,.string o.nom,.string o.hol,.string o.fund,.string o.cls,.int .i64 o.kind,.int .i64 o.amount,.int .i64 o.units,.int .i64 o.at_,.int .i64 o.known,.bool o.void]
structure Tk where
 o:Od
 day:Int
 first:Int
def Tk.cells (x:Tk):List Value:=[.string x.o.key,.string x.o.nom,.string x.o.hol,.string x.o.fund,.string x.o.cls,.int .i64 x.o.kind,.int .i64 x.o.amount,.int .i64 x.o.units,.int .i64 x.o.at_,.int .i64 x.o.known,.bool x.o.void,.int .i64 x.day,.int .i64 x.first]
def cellsT (l:List Tk):List Value:=l.flatMap Tk.cells
theorem cellsT_len (l:List Tk):(cellsT l).length=l.length*13:=by
 induction l with
 | nil=>rfl
 | cons b l ih=>simp only [cellsT,List.flatMap_cons,List.length_append,List.length_cons,Tk.cells,List.length_nil] at ih ⊢;rw [ih];omega
theorem cellsT_app (a b:List Tk):cellsT (a++b)=cellsT a++cellsT b:=by simp [cellsT]
theorem cellsT_get (l:List Tk) (k:Nat) (b:Tk) (h:l[k]?=some b):∀ j u,b.cells[j]?=some u→(cellsT l)[k*13+j]?=some u:=by
 induction l generalizing k with
 | nil=>simp at h
 | cons a l ih =>
  intro j u hu
  have hj:j<13:=by have:=(List.getElem?_eq_some_iff.1 hu).1;simpa [Tk.cells] using this
  cases k with
  | zero =>
   simp only [List.getElem?_cons_zero,Option.some.injEq] at h
   subst h
   rw [cellsT,List.flatMap_cons,List.getElem?_append_left (by simp [Tk.cells];omega),Nat.zero_mul,Nat.zero_add];exact hu
  | succ k =>
   rw [cellsT,List.flatMap_cons,List.getElem?_append_right (by simp [Tk.cells];omega)]
   have:=ih k (by simpa using h) j u hu
   rw [cellsT] at this
   rw [←this];congr 1;simp [Tk.cells];omega
def headO (o:Od):Bool:=nameB o.key&&inR o.at_ 0 105190559&&inR o.known 1 2147483647
def askO (o:Od):Bool :=
 if o.kind=1∨o.kind=4 then inR o.amount 1 1000000000000000&&decide (o.units=0)
 else if o.kind=2∨o.kind=3 then inR o.units 1 1000000000000000&&decide (o.amount=0)
 else if o.kind=5 then decide (o.amount=0)&&decide (o.units=0) else false
def okO (o:Od):Bool:=headO o&&(acctB o.nom o.hol&&nameB o.fund&&nameB o.cls&&askO o)
def Tk.over (x:Tk) (n next:Int):Tk:=⟨{ x.o with kind:=3,amount:=0,units:=n },next,x.first⟩
def okC (x:Tk) (w a:Int):Bool:=!x.o.void&&okO x.o&&inR w 1 1000000000000000&&inR a 0 w
def okCs:List Tk→List Int→List Int→Bool
 | x::l,w::ws,a::ss=>okC x w a&&okCs l ws ss
 | _,_,_=>true
def carryL (next:Int):List Tk→List Int→List Int→List Tk
 | x::l,w::ws,a::ss=>if a<w then x.over (w - a) next::carryL next l ws ss else carryL next l ws ss
 | _,_,_=>[]
def carryE (l:List Tk) (ws ss:List Int) (next:Int):Option Int :=
 if 64<l.length∨ws.length≠l.length∨ss.length≠l.length then some 270 else if okCs l ws ss=false then some 270 else if next<0∨73048<next then some 50 else none
theorem okCs_at:∀ {l:List Tk} {ws ss:List Int} {k:Nat} {x:Tk} {w a:Int},l[k]?=some x→ws[k]?=some w→ss[k]?=some a→okCs l ws ss=true→okC x w a=true
 | [],_,_,_,_,_,_,h,_,_,_=>by simp at h
 | _::_,[],_,_,_,_,_,_,h,_,_=>by simp at h
 | _::_,_::_,[],_,_,_,_,_,_,h,_=>by simp at h
 | y::l,v::ws,b::ss,0,x,w,a,h1,h2,h3,h=>by
  simp at h1 h2 h3;subst h1 h2 h3
  unfold okCs at h;rw [Bool.and_eq_true] at h;exact h.1
 | y::l,v::ws,b::ss,k+1,x,w,a,h1,h2,h3,h=>by
  unfold okCs at h;rw [Bool.and_eq_true] at h
  exact okCs_at (by simpa using h1) (by simpa using h2) (by simpa using h3) h.2
theorem okCs_all:∀ {l:List Tk} {ws ss:List Int},ws.length=l.length→ss.length=l.length→(∀ (k:Nat) (x:Tk) (w a:Int),l[k]?=some x→ws[k]?=some w→ss[k]?=some a→okC x w a=true)→okCs l ws ss=true
 | [],_,_,_,_,_=>by unfold okCs;rfl
 | y::l,[],_,h,_,_=>by simp at h
 | y::l,v::ws,[],_,h,_=>by simp at h
 | y::l,v::ws,b::ss,h1,h2,h=>by
  unfold okCs
  rw [h 0 y v b rfl rfl rfl,Bool.true_and]
  exact okCs_all (by simpa using h1) (by simpa using h2) fun k x w a e1 e2 e3=>h (k+1) x w a (by simpa using e1) (by simpa using e2) (by simpa using e3)
theorem carry_snoc (next:Int):∀ {l:List Tk} {ws ss:List Int} {k:Nat} {x:Tk} {w a:Int},l[k]?=some x→ws[k]?=some w→ss[k]?=some a →
  carryL next (l.take (k+1)) (ws.take (k+1)) (ss.take (k+1))=carryL next (l.take k) (ws.take k) (ss.take k)++(if a<w then [x.over (w - a) next] else [])
 | [],_,_,_,_,_,_,h,_,_=>by simp at h
 | _::_,[],_,_,_,_,_,_,h,_=>by simp at h
 | _::_,_::_,[],_,_,_,_,_,_,h=>by simp at h
 | y::l,v::ws,b::ss,0,x,w,a,h1,h2,h3=>by
  simp at h1 h2 h3;subst h1 h2 h3
  simp only [List.take_succ_cons,List.take_zero,carryL,List.nil_append]
 | y::l,v::ws,b::ss,k+1,x,w,a,h1,h2,h3=>by
  have:=carry_snoc next (l:=l) (ws:=ws) (ss:=ss) (k:=k) (by simpa using h1) (by simpa using h2) (by simpa using h3)
  rw [List.take_succ_cons,List.take_succ_cons,List.take_succ_cons,List.take_succ_cons,List.take_succ_cons,List.take_succ_cons]
  unfold carryL
  rw [this]
  split<;>simp
theorem carry_len (next:Int):∀ (l:List Tk) (ws ss:List Int),(carryL next l ws ss).length≤l.length
 | [],_,_=>by unfold carryL;simp
 | y::l,[],_=>by unfold carryL;simp
 | y::l,v::ws,[]=>by unfold carryL;simp
 | y::l,v::ws,b::ss=>by
  unfold carryL
  have:=carry_len next l ws ss
  split<;>simp<;>omega
end Ga
open Ga
def TksAt (w:World) (v:Value) (l:List Tk):Prop:=Rd w 13 v l.length (cellsT l)
theorem TksAt.below {w w':World} {v:Value} {l:List Tk} (h:TksAt w v l) (hb:Below w.heap.size w w'):TksAt w' v l:=Rd.below h hb
end Go.Proofs.YtooeabibhjbkoaaGreat
set_option maxHeartbeats 4000000
namespace Go.Proofs.YtooeabibhjbkoaaGreat
open Go.RowKit Reg Al Ga
open Lib (hid)
theorem owithin_any (n most:Int) (b:Bool) (h:inR n 1 most=b) (w:World) :
  Calls Tryz.prog 82 #[.int .i64 n,.int .i64 most] w fun e w'=>e=.returned (.bool b)∧w=w':=by
 subst h
 go_enter Tryz.func82,Tryz.ntmps82
 by_cases h1:1≤n
 ·by_cases h2:n≤most
  ·go_wp2
   go_ret
   exact ⟨ret_bool (by rw [Bool.eq_iff_iff];simp [inR]<;>omega),rfl⟩
  ·go_wp2
   go_ret
   exact ⟨ret_bool (by rw [Bool.eq_iff_iff];simp [inR]<;>omega),rfl⟩
 ·go_wp2
  go_ret
  exact ⟨ret_bool (by rw [Bool.eq_iff_iff];simp [inR]<;>omega),rfl⟩
theorem oasked_any (o:Od) (b:Bool) (h:askO o=b) (w:World):Calls Tryz.prog 84 #[.agg #[.string o.key,.string o.nom,.string o.hol,.string o.fund,.string o.cls,.int .i64 o.kind,.int .i64 o.amount,.int .i64 o.units,.int .i64 o.at_,.int .i64 o.known,.bool o.void]] w fun e w'=>e=.returned (.bool b)∧Below w.heap.size w w':=by
 obtain ⟨key,nom,hol,fund,cls,K,a,u,at_,known,void⟩:=o
 subst h
 have HF:=hid (askO.eq_1 ⟨key,nom,hol,fund,cls,K,a,u,at_,known,void⟩)
 simp only at HF ⊢
 by_cases k1:K=1
 ·subst k1
  cases r1:inR a 1 1000000000000000 with
  | false =>
   go_enter Tryz.func84,Tryz.ntmps84
   go_wp2_with (go_at_call 82;refine (owithin_any _ _ _ (by assumption) _).mono ?_;rintro e w' ⟨rfl,rfl⟩)
   go_ret
   exact ⟨ret_bool (by rw [HF.out];simp [r1]),(Below.refl _ _).alloc (Nat.le_refl _) _⟩
  | true =>
   by_cases z0:u=0
   ·subst z0
    go_enter Tryz.func84,Tryz.ntmps84
    go_wp2_with (go_at_call 82;refine (owithin_any _ _ _ (by assumption) _).mono ?_;rintro e w' ⟨rfl,rfl⟩)
    go_ret
    exact ⟨ret_bool (by rw [HF.out];simp [r1]),(Below.refl _ _).alloc (Nat.le_refl _) _⟩
   ·have y0:(u==0)=false:=beq_eq_false_iff_ne.2 z0
    go_enter Tryz.func84,Tryz.ntmps84
    go_wp2_with (go_at_call 82;refine (owithin_any _ _ _ (by assumption) _).mono ?_;rintro e w' ⟨rfl,rfl⟩)
    go_ret
    exact ⟨ret_bool (by rw [HF.out];simp [r1,z0]),(Below.refl _ _).alloc (Nat.le_refl _) _⟩
 have j1:(K==1)=false:=beq_eq_false_iff_ne.2 k1
 by_cases k4:K=4
 ·subst k4
  cases r1:inR a 1 1000000000000000 with
  | false =>
   go_enter Tryz.func84,Tryz.ntmps84
   go_wp2_with (go_at_call 82;refine (owithin_any _ _ _ (by assumption) _).mono ?_;rintro e w' ⟨rfl,rfl⟩)
   go_ret
   exact ⟨ret_bool (by rw [HF.out];simp [k1,r1]),(Below.refl _ _).alloc (Nat.le_refl _) _⟩
  | true =>
   by_cases z0:u=0
   ·subst z0
    go_enter Tryz.func84,Tryz.ntmps84
    go_wp2_with (go_at_call 82;refine (owithin_any _ _ _ (by assumption) _).mono ?_;rintro e w' ⟨rfl,rfl⟩)
    go_ret
    exact ⟨ret_bool (by rw [HF.out];simp [k1,r1]),(Below.refl _ _).alloc (Nat.le_refl _) _⟩
   ·have y0:(u==0)=false:=beq_eq_false_iff_ne.2 z0
    go_enter Tryz.func84,Tryz.ntmps84
    go_wp2_with (go_at_call 82;refine (owithin_any _ _ _ (by assumption) _).mono ?_;rintro e w' ⟨rfl,rfl⟩)
    go_ret
    exact ⟨ret_bool (by rw [HF.out];simp [k1,r1,z0]),(Below.refl _ _).alloc (Nat.le_refl _) _⟩
 have j4:(K==4)=false:=beq_eq_false_iff_ne.2 k4
 by_cases k2:K=2
 ·subst k2
  cases r1:inR u 1 1000000000000000 with
  | false =>
   go_enter Tryz.func84,Tryz.ntmps84
   go_wp2_with (go_at_call 82;refine (owithin_any _ _ _ (by assumption) _).mono ?_;rintro e w' ⟨rfl,rfl⟩)
   go_ret
   exact ⟨ret_bool (by rw [HF.out];simp [k1,k4,r1]),(Below.refl _ _).alloc (Nat.le_refl _) _⟩
  | true =>
   by_cases z0:a=0
   ·subst z0
    go_enter Tryz.func84,Tryz.ntmps84
    go_wp2_with (go_at_call 82;refine (owithin_any _ _ _ (by assumption) _).mono ?_;rintro e w' ⟨rfl,rfl⟩)
    go_ret
    exact ⟨ret_bool (by rw [HF.out];simp [k1,k4,r1]),(Below.refl _ _).alloc (Nat.le_refl _) _⟩
   ·have y0:(a==0)=false:=beq_eq_false_iff_ne.2 z0
    go_enter Tryz.func84,Tryz.ntmps84
    go_wp2_with (go_at_call 82;refine (owithin_any _ _ _ (by assumption) _).mono ?_;rintro e w' ⟨rfl,rfl⟩)
    go_ret
    exact ⟨ret_bool (by rw [HF.out];simp [k1,k4,r1,z0]),(Below.refl _ _).alloc (Nat.le_refl _) _⟩
 have j2:(K==2)=false:=beq_eq_false_iff_ne.2 k2
 by_cases k3:K=3
 ·subst k3
  cases r1:inR u 1 1000000000000000 with
  | false =>
   go_enter Tryz.func84,Tryz.ntmps84
   go_wp2_with (go_at_call 82;refine (owithin_any _ _ _ (by assumption) _).mono ?_;rintro e w' ⟨rfl,rfl⟩)
   go_ret
   exact ⟨ret_bool (by rw [HF.out];simp [k1,k4,k2,r1]),(Below.refl _ _).alloc (Nat.le_refl _) _⟩
  | true =>
   by_cases z0:a=0
   ·subst z0
    go_enter Tryz.func84,Tryz.ntmps84
    go_wp2_with (go_at_call 82;refine (owithin_any _ _ _ (by assumption) _).mono ?_;rintro e w' ⟨rfl,rfl⟩)
    go_ret
    exact ⟨ret_bool (by rw [HF.out];simp [k1,k4,k2,r1]),(Below.refl _ _).alloc (Nat.le_refl _) _⟩
   ·have y0:(a==0)=false:=beq_eq_false_iff_ne.2 z0
    go_enter Tryz.func84,Tryz.ntmps84
    go_wp2_with (go_at_call 82;refine (owithin_any _ _ _ (by assumption) _).mono ?_;rintro e w' ⟨rfl,rfl⟩)
    go_ret
    exact ⟨ret_bool (by rw [HF.out];simp [k1,k4,k2,r1,z0]),(Below.refl _ _).alloc (Nat.le_refl _) _⟩
 have j3:(K==3)=false:=beq_eq_false_iff_ne.2 k3
 by_cases k5:K=5
 ·subst k5
  by_cases z0:a=0
  ·subst z0
   by_cases z1:u=0
   ·subst z1
    go_enter Tryz.func84,Tryz.ntmps84
    go_wp2_with (go_at_call 82;refine (owithin_any _ _ _ (by assumption) _).mono ?_;rintro e w' ⟨rfl,rfl⟩)
    go_ret
    exact ⟨ret_bool (by rw [HF.out];simp [k1,k4,k2,k3]),(Below.refl _ _).alloc (Nat.le_refl _) _⟩
   ·have y1:(u==0)=false:=beq_eq_false_iff_ne.2 z1
    go_enter Tryz.func84,Tryz.ntmps84
    go_wp2_with (go_at_call 82;refine (owithin_any _ _ _ (by assumption) _).mono ?_;rintro e w' ⟨rfl,rfl⟩)
    go_ret
    exact ⟨ret_bool (by rw [HF.out];simp [k1,k4,k2,k3,z1]),(Below.refl _ _).alloc (Nat.le_refl _) _⟩
  ·have y0:(a==0)=false:=beq_eq_false_iff_ne.2 z0
   go_enter Tryz.func84,Tryz.ntmps84
   go_wp2_with (go_at_call 82;refine (owithin_any _ _ _ (by assumption) _).mono ?_;rintro e w' ⟨rfl,rfl⟩)
   go_ret
   exact ⟨ret_bool (by rw [HF.out];simp [k1,k4,k2,k3,z0]),(Below.refl _ _).alloc (Nat.le_refl _) _⟩
 have j5:(K==5)=false:=beq_eq_false_iff_ne.2 k5
 go_enter Tryz.func84,Tryz.ntmps84
 go_wp2_with (go_at_call 82;refine (owithin_any _ _ _ (by assumption) _).mono ?_;rintro e w' ⟨rfl,rfl⟩)
 go_ret
 exact ⟨ret_bool (by rw [HF.out];simp [k1,k4,k2,k3,k5]),(Below.refl _ _).alloc (Nat.le_refl _) _⟩
theorem rasked_any (o:Od) (b:Bool) (h:askO o=b) (w:World):Calls Tryz.prog 86 #[.agg #[.string o.key,.string o.nom,.string o.hol,.string o.fund,.string o.cls,.int .i64 o.kind,.int .i64 o.amount,.int .i64 o.units,.int .i64 o.at_,.int .i64 o.known,.bool o.void]] w fun e w'=>e=.returned (.bool b)∧Below w.heap.size w w':=by
 obtain ⟨key,nom,hol,fund,cls,K,a,u,at_,known,void⟩:=o
 subst h
 have HF:=hid (askO.eq_1 ⟨key,nom,hol,fund,cls,K,a,u,at_,known,void⟩)
 simp only at HF ⊢
 obtain ⟨B,hB⟩:∃ B,B=w.heap.size:=⟨_,rfl⟩
 obtain ⟨w0,hw0⟩:∃ w0,w0=w.alloc (.cells #[.string key,.string nom,.string hol,.string fund,.string cls,.int .i64 K,.int .i64 a,.int .i64 u,.int .i64 at_,.int .i64 known,.bool void] 63):=⟨_,rfl⟩
 have hb0:Below w.heap.size w w0:=by rw [hw0];exact (Below.refl _ _).alloc (Nat.le_refl _) _
 have cK:w0.cell? ⟨B,5,none⟩=some (.int .i64 K):=by rw [hw0,hB];go_cell
 have cA:w0.cell? ⟨B,6,none⟩=some (.int .i64 a):=by rw [hw0,hB];go_cell
 have cU:w0.cell? ⟨B,7,none⟩=some (.int .i64 u):=by rw [hw0,hB];go_cell
 have HB0:=hid hb0
 clear hb0
 go_enter Tryz.func86,Tryz.ntmps86
 go_upto_region 1 with fail
 rw [←hw0,←hB]
 clear hw0 hB
 go_cut [3,4] from 5 to 20 (fun p3 p4 wx=>p3=.bool (inR a 1 1000000000000000)∧p4=.bool (inR u 1 1000000000000000)∧Below w0.heap.size w0 wx)
 case first =>
  by_cases a1:1≤a
  ·by_cases a2:a≤1000000000000000
   ·by_cases u1:1≤u
    ·by_cases u2:u≤1000000000000000
     all_goals
      go_quiet (fail)
      (try go_wp2_with fail)
      go_meet
      exact ⟨congrArg Value.bool (by rw [Bool.eq_iff_iff];simp [inR]<;>omega),congrArg Value.bool (by rw [Bool.eq_iff_iff];simp [inR]<;>omega),below_drewN (Below.refl _ _) _⟩
    ·go_quiet (fail)
     (try go_wp2_with fail)
     go_meet
     exact ⟨congrArg Value.bool (by rw [Bool.eq_iff_iff];simp [inR]<;>omega),congrArg Value.bool (by rw [Bool.eq_iff_iff];simp [inR]<;>omega),below_drewN (Below.refl _ _) _⟩
   ·by_cases u1:1≤u
    ·by_cases u2:u≤1000000000000000
     all_goals
      go_quiet (fail)
      (try go_wp2_with fail)
      go_meet
      exact ⟨congrArg Value.bool (by rw [Bool.eq_iff_iff];simp [inR]<;>omega),congrArg Value.bool (by rw [Bool.eq_iff_iff];simp [inR]<;>omega),below_drewN (Below.refl _ _) _⟩
    ·go_quiet (fail)
     (try go_wp2_with fail)
     go_meet
     exact ⟨congrArg Value.bool (by rw [Bool.eq_iff_iff];simp [inR]<;>omega),congrArg Value.bool (by rw [Bool.eq_iff_iff];simp [inR]<;>omega),below_drewN (Below.refl _ _) _⟩
  ·by_cases u1:1≤u
   ·by_cases u2:u≤1000000000000000
    all_goals
     go_quiet (fail)
     (try go_wp2_with fail)
     go_meet
     exact ⟨congrArg Value.bool (by rw [Bool.eq_iff_iff];simp [inR]<;>omega),congrArg Value.bool (by rw [Bool.eq_iff_iff];simp [inR]<;>omega),below_drewN (Below.refl _ _) _⟩
   ·go_quiet (fail)
    (try go_wp2_with fail)
    go_meet
    exact ⟨congrArg Value.bool (by rw [Bool.eq_iff_iff];simp [inR]<;>omega),congrArg Value.bool (by rw [Bool.eq_iff_iff];simp [inR]<;>omega),below_drewN (Below.refl _ _) _⟩
 case rest =>
  obtain ⟨rfl,rfl,hbc⟩:=hcut
  have cK:=qcU cK hbc
  have cA:=qcU cA hbc
  have cU:=qcU cU hbc
  have HBC:=hid hbc
  clear hbc
  obtain ⟨ra,hra⟩:∃ r,r=inR a 1 1000000000000000:=⟨_,rfl⟩
  obtain ⟨ru,hru⟩:∃ r,r=inR u 1 1000000000000000:=⟨_,rfl⟩
  rw [←hra,←hru] at HF ⊢
  clear hra hru
  by_cases k1:K=1
  ·subst k1
   cases ra with
   | false =>
    go_wp2
    go_ret
    exact ⟨ret_bool (by rw [HF.out];simp []),HB0.out.trans (HBC.out.mono HB0.out.size)⟩
   | true =>
    by_cases z0:u=0
    ·subst z0
     go_wp2
     go_ret
     exact ⟨ret_bool (by rw [HF.out];simp []),HB0.out.trans (HBC.out.mono HB0.out.size)⟩
    ·have y0:(u==0)=false:=beq_eq_false_iff_ne.2 z0
     go_wp2
     go_ret
     exact ⟨ret_bool (by rw [HF.out];simp [z0]),HB0.out.trans (HBC.out.mono HB0.out.size)⟩
  have j1:(K==1)=false:=beq_eq_false_iff_ne.2 k1
  by_cases k4:K=4
  ·subst k4
   cases ra with
   | false =>
    go_wp2
    go_ret
    exact ⟨ret_bool (by rw [HF.out];simp [k1]),HB0.out.trans (HBC.out.mono HB0.out.size)⟩
   | true =>
    by_cases z0:u=0
    ·subst z0
     go_wp2
     go_ret
     exact ⟨ret_bool (by rw [HF.out];simp [k1]),HB0.out.trans (HBC.out.mono HB0.out.size)⟩
    ·have y0:(u==0)=false:=beq_eq_false_iff_ne.2 z0
     go_wp2
     go_ret
     exact ⟨ret_bool (by rw [HF.out];simp [k1,z0]),HB0.out.trans (HBC.out.mono HB0.out.size)⟩
  have j4:(K==4)=false:=beq_eq_false_iff_ne.2 k4
  by_cases k2:K=2
  ·subst k2
   cases ru with
   | false =>
    go_wp2
    go_ret
    exact ⟨ret_bool (by rw [HF.out];simp [k1,k4]),HB0.out.trans (HBC.out.mono HB0.out.size)⟩
   | true =>
    by_cases z0:a=0
    ·subst z0
     go_wp2
     go_ret
     exact ⟨ret_bool (by rw [HF.out];simp [k1,k4]),HB0.out.trans (HBC.out.mono HB0.out.size)⟩
    ·have y0:(a==0)=false:=beq_eq_false_iff_ne.2 z0
     go_wp2
     go_ret
     exact ⟨ret_bool (by rw [HF.out];simp [k1,k4,z0]),HB0.out.trans (HBC.out.mono HB0.out.size)⟩
  have j2:(K==2)=false:=beq_eq_false_iff_ne.2 k2
  by_cases k3:K=3
  ·subst k3
   cases ru with
   | false =>
    go_wp2
    go_ret
    exact ⟨ret_bool (by rw [HF.out];simp [k1,k4,k2]),HB0.out.trans (HBC.out.mono HB0.out.size)⟩
   | true =>
    by_cases z0:a=0
    ·subst z0
     go_wp2
     go_ret
     exact ⟨ret_bool (by rw [HF.out];simp [k1,k4,k2]),HB0.out.trans (HBC.out.mono HB0.out.size)⟩
    ·have y0:(a==0)=false:=beq_eq_false_iff_ne.2 z0
     go_wp2
     go_ret
     exact ⟨ret_bool (by rw [HF.out];simp [k1,k4,k2,z0]),HB0.out.trans (HBC.out.mono HB0.out.size)⟩
  have j3:(K==3)=false:=beq_eq_false_iff_ne.2 k3
  by_cases k5:K=5
  ·subst k5
   by_cases z0:a=0
   ·subst z0
    by_cases z1:u=0
    ·subst z1
     go_wp2
     go_ret
     exact ⟨ret_bool (by rw [HF.out];simp [k1,k4,k2,k3]),HB0.out.trans (HBC.out.mono HB0.out.size)⟩
    ·have y1:(u==0)=false:=beq_eq_false_iff_ne.2 z1
     go_wp2
     go_ret
     exact ⟨ret_bool (by rw [HF.out];simp [k1,k4,k2,k3,z1]),HB0.out.trans (HBC.out.mono HB0.out.size)⟩
   ·have y0:(a==0)=false:=beq_eq_false_iff_ne.2 z0
    go_wp2
    go_ret
    exact ⟨ret_bool (by rw [HF.out];simp [k1,k4,k2,k3,z0]),HB0.out.trans (HBC.out.mono HB0.out.size)⟩
  have j5:(K==5)=false:=beq_eq_false_iff_ne.2 k5
  go_wp2
  go_ret
  exact ⟨ret_bool (by rw [HF.out];simp [k1,k4,k2,k3,k5]),HB0.out.trans (HBC.out.mono HB0.out.size)⟩
end Go.Proofs.YtooeabibhjbkoaaGreat
