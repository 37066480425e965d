import Derived.Test.YtooeabibhjbkoaaGreatRegC
import Derived.Test.YtooeabibhjbkoaaGreatAlB
import Derived.Test.YtooeabibhjbkoaaGreatBkN
set_option linter.unusedVariables false
set_option linter.unusedSimpArgs false
namespace Go.Proofs.YtooeabibhjbkoaaGreat
open Go.RowKit Reg Al
namespace Ga
structure Rq where
 key:ByteArray
 units:Int
 value:Int
def Rq.cells (b:Rq):List Value:=[.string b.key,.int .i64 b.units,.int .i64 b.value]
def cellsQ (l:List Rq):List Value:=l.flatMap Rq.cells
theorem cellsQ_len (l:List Rq):(cellsQ l).length=l.length*3:=by
 induction l with
 | nil=>rfl
 | cons b l ih=>simp only [cellsQ,List.flatMap_cons,List.length_append,List.length_cons,Rq.cells,List.length_nil] at ih ⊢;rw [ih];omega
theorem cellsQ_get (l:List Rq) (k:Nat) (b:Rq) (h:l[k]?=some b):∀ j u,b.cells[j]?=some u→(cellsQ l)[k*3+j]?=some u:=by
 induction l generalizing k with
 | nil=>simp at h
 | cons a l ih =>
  intro j u hu
  have hj:j<3:=by have:=(List.getElem?_eq_some_iff.1 hu).1;simpa [Rq.cells] using this
  cases k with
  | zero =>
   simp only [List.getElem?_cons_zero,Option.some.injEq] at h
   subst h
   rw [cellsQ,List.flatMap_cons,List.getElem?_append_left (by simp [Rq.cells];omega),Nat.zero_mul,Nat.zero_add];exact hu
  | succ k =>
   rw [cellsQ,List.flatMap_cons,List.getElem?_append_right (by simp [Rq.cells];omega)]
   have:=ih k (by simpa using h) j u hu
   rw [cellsQ] at this
   rw [←this];congr 1;simp [Rq.cells];omega
def okQ (b:Rq):Bool:=nameB b.key&&inR b.units 1 1000000000000000&&inR b.value 0 1000000000000000
def okAtQ (l:List Rq) (k:Nat):Bool:=match l[k]? with
 | some b=>okQ b&&!((l.take k).any fun c=>decide (c.key=b.key))
 | none=>true
def okLQ (l:List Rq):Bool:=(List.range l.length).all fun k=>okAtQ l k
def checkQ (l:List Rq):Bool:=decide (l.length≤64)&&okLQ l
theorem okLQ_yes {l:List Rq} (h:∀ k,k<l.length→okAtQ l k=true):okLQ l=true:=by
 unfold okLQ;rw [List.all_eq_true];intro k hk;exact h k (List.mem_range.1 hk)
theorem okLQ_no {l:List Rq} {k:Nat} (hk:k<l.length) (h:okAtQ l k=false):okLQ l=false:=by
 unfold okLQ;rw [List.all_eq_false];exact ⟨k,List.mem_range.2 hk,by rw [h];simp⟩
theorem okLQ_at {l:List Rq} (h:okLQ l=true) {k:Nat} (hk:k<l.length):okAtQ l k=true:=by
 unfold okLQ at h;rw [List.all_eq_true] at h;exact h k (List.mem_range.2 hk)
theorem check_mem {l:List Rq} (h:checkQ l=true) {x:Rq} (hx:x∈l):1≤x.units∧x.units≤1000000000000000∧0≤x.value∧x.value≤1000000000000000:=by
 obtain ⟨k,hk⟩:=List.mem_iff_getElem?.1 hx
 unfold checkQ at h
 rw [Bool.and_eq_true] at h
 have:=okLQ_at h.2 (List.getElem?_eq_some_iff.1 hk).1
 rw [okAtQ,hk] at this
 simp only [okQ,Bool.and_eq_true] at this
 have h1:=inR_yes this.1.1.2
 have h2:=inR_yes this.1.2
 exact ⟨h1.1,h1.2,h2.1,h2.2⟩
theorem check_len {l:List Rq} (h:checkQ l=true):l.length≤64:=by
 unfold checkQ at h;rw [Bool.and_eq_true] at h;exact of_decide_eq_true h.1
end Ga
open Ga
def RqsAt (w:World) (v:Value) (l:List Rq):Prop:=Rd w 3 v l.length (cellsQ l)
theorem RqsAt.below {w w':World} {v:Value} {l:List Rq} (h:RqsAt w v l) (hb:Below w.heap.size w w'):RqsAt w' v l:=Rd.below h hb
def QAt (w:World) (g o:Nat) (x:Rq):Prop:=w.cell? ⟨g,o,none⟩=some (.string x.key)∧w.cell? ⟨g,o+1,none⟩=some (.int .i64 x.units)∧w.cell? ⟨g,o+2,none⟩=some (.int .i64 x.value)
theorem QAt.below {w w':World} {g o:Nat} {x:Rq} (h:QAt w g o x) (hb:Below w.heap.size w w'):QAt w' g o x:=⟨cU h.1 hb,cU h.2.1 hb,cU h.2.2 hb⟩
theorem rqs_some {w:World} {v:Value} {l:List Rq} (h:RqsAt w v l) (hn:0<l.length):∃ g off cap,v=.slice (some ⟨g,off,none⟩) l.length cap∧∀ k x,l[k]?=some x→QAt w g (off+k*3) x:=by
 obtain ⟨h1,h2,A,cap,hv,h3⟩:=h
 obtain ⟨g,off,ha,hc⟩:=h3 hn
 subst ha
 refine ⟨g,off,cap,hv,fun k x hx=>?_⟩
 have c:=cellsQ_get l k x hx
 exact ⟨hc _ _ (c 0 _ rfl),by rw [Nat.add_assoc];exact hc _ _ (c 1 _ rfl),by rw [Nat.add_assoc];exact hc _ _ (c 2 _ rfl)⟩
theorem rqs_lt {w:World} {g off:Nat} {l:List Rq} (h:∀ k x,l[k]?=some x→QAt w g (off+k*3) x) (hn:0<l.length):g<w.heap.size:=by
 have:=(h 0 _ (List.getElem?_eq_getElem hn)).1
 exact World.block_lt_of_cell? w _ this
theorem anyQ_take {l:List Rq} {k:Nat} (s:ByteArray):(((l.take k).map Rq.key).any fun t=>decide (t=s))=(l.take k).any fun c=>decide (c.key=s):=by
 rw [List.any_map];rfl
theorem nameB_small16 {s:ByteArray} (h:Reg.nameB s=true):s.size≤16:=by
 unfold Reg.nameB at h;simp only [Bool.and_eq_true,decide_eq_true_eq] at h;exact h.1.1.2
theorem onameC (s:ByteArray) (b:Bool) (h:Reg.nameB s=b) (w:World):Calls Tryz.prog 56 #[.string s] w fun e w'=>e=.returned (.bool b)∧Below w.heap.size w w':=by rw [←h];exact oname_any s w
theorem rnameQ (s:ByteArray) (b:Bool) (h:Reg.nameB s=b) (w:World):Calls Tryz.prog 70 #[.string s] w fun e w'=>e=.returned (.bool b)∧Below w.heap.size w w':=by rw [←h];exact rnameB_any s w
theorem wpQuiet_look_g {P:Program} {ops:Array Oper} {w:World} {Q:Act→Prop} {a:Act} {op:Oper} {rest:List Oper} {t:TypeId} {m k:Operand} {vm vk v:Value} (hgd:Region.wanted op (yielded ops a.tmps)=true) (ho:op.op=.lookup t m k false)
  (hm:a.eval m=vm) (hk:a.eval k=vk) (hl:∀ W,Below w.heap.size w W→(Instr.lookup t vm vk false).run P W=.ok v W)
  (h:wpQuiet P ops (fun w'=>∃ p:GB,w'=gw w p.d p.os) Q rest (a.put op.dst v)) :
  wpQuiet P ops (fun w'=>∃ p:GB,w'=gw w p.d p.os) Q (op::rest) a:=by
 refine wpQuiet_step (fun K hK=>?_)
 rw [if_pos hgd]
 refine ⟨v,fun W hW=>?_,hK _ h⟩
 obtain ⟨p,rfl⟩:=hW
 unfold Oper.quietAt execOp
 have:=hl _ (qbG w p.d p.os)
 simp only [ho,hm,hk,Sem.run_bind,Sem.run_pure,Result.andThen_ok,this]
 exact ⟨rfl,rfl⟩
end Go.Proofs.YtooeabibhjbkoaaGreat
