import Derived.Test.YtemoddmadfoaiaaGreatFl2
import Derived.Test.YtemoddmadfoaiaaGreatGkA
import Derived.Great.BuildSlice
set_option linter.unusedVariables false
set_option linter.unusedSimpArgs false
namespace Go.Proofs.YtemoddmadfoaiaaGreat
open Go.RowKit Reg
def ivl:Value→Int
 | .int _ n=>n
 | _=>0
def EvInt (S:Int→Prop) (v:Value) (_:World):Prop:=∃ u:Int,v=.int .i64 u∧S u
def EvVal (S:Value→Prop) (v:Value) (_:World):Prop:=S v
def EvRow (B n:Nat) (S:List Value→Prop) (v:Value) (w:World):Prop:=∃ g cs,v=.slice (some ⟨g,0,none⟩) n n∧B≤g∧At w g 0 cs∧S cs
def EvNew (B n:Nat) (v:Value) (w:World):Prop:=∃ X zs,v=.pointer (some ⟨X,0,none⟩)∧B≤X∧At w X 0 zs∧zs.length=n
theorem EvRow.up {B n bt:Nat} {S:List Value→Prop} {v:Value} {x y:World} (hB:bt<B) (h:EvRow B n S v x) (hd:Drew x bt y):EvRow B n S v y:=by
 obtain ⟨g,cs,h1,h2,h3,h4⟩:=h;exact ⟨g,cs,h1,h2,h3.drw hd (by omega),h4⟩
theorem EvNew.up {B n bt:Nat} {v:Value} {x y:World} (hB:bt<B) (h:EvNew B n v x) (hd:Drew x bt y):EvNew B n v y:=by
 obtain ⟨g,cs,h1,h2,h3,h4⟩:=h;exact ⟨g,cs,h1,h2,h3.drw hd (by omega),h4⟩
theorem GY.mono {P:Program} {fin:Act} {o:Oper} {W:World} {D E:Value→World→Prop} (h:GY P fin o W D) (k:∀ v w,D v w→E v w):GY P fin o W E:=by
 unfold GY at *;split at h
 ·exact k _ _ h
 ·exact ⟨h.1,h.2.mono fun e w ⟨v,h1,h2⟩=>⟨v,h1,k _ _ h2⟩⟩
 ·exact h
theorem GY.rowOf {P:Program} {fin:Act} {o:Oper} {W:World} {t e:TypeId} {len s bt B:Nat} {parts:Array (Nat × Operand)} (vs:List Value) (ho:o.op=.buildSlice t len parts)
  (hparts:(parts.map fun (i,x)=>(i,fin.eval x)).toList=(vs.zipIdx 0).map fun x=>(x.2,x.1)) (hlen:len=vs.length) (hpos:0<len) (hs:0<s) (hcs:∀ v∈vs,v.cells.size=s) (hsmall:len*s≤2^24)
  (hu:P.underlying t=some (.slice e)) (hsz:(P.info? e).map (·.size)=some s) (hz:((P.info? e).bind (·.zero)).isSome=true) (hT:IsTp W bt) (hB:B≤W.heap.size) {S:List Value→Prop} (hS:S (vs.flatMap fun v=>v.cells.toList)) :
  GY P fin o W (fun v w''=>Drew W bt w''∧EvRow B len S v w''):=by
 cases hie:P.info? e with
 | none=>simp [hie] at hsz
 | some ie =>
  simp only [hie,Option.map_some,Option.some.injEq,Option.bind_some] at hsz hz;obtain ⟨z,hzz⟩:=Option.isSome_iff_exists.1 hz
  have hrun:(execOp fin.eval o).run P W=.ok (.value (.slice (some ⟨W.heap.size,0,none⟩) len len)) (W.alloc (.cells (vs.flatMap fun v=>v.cells.toList).toArray e)):=by
   unfold execOp;have hp:0<len*ie.size:=Nat.mul_pos hpos (by omega)
   simp only [ho,Sem.run_bind,run_buildSlice W t e len _ _ ie z hu hie hzz (by rw [hsz];omega) (by omega) (by
    rw [hparts,hsz];exact Great.fill_whole hs _ _ hcs (by simp [hlen])),Result.andThen_ok]
   rfl
  exact GY.value hrun ⟨(Drew.refl hT).alloc _,W.heap.size,_,rfl,hB,At.fresh W _ e rfl,hS⟩
theorem GY.newOf {P:Program} {fin:Act} {o:Oper} {W:World} {t:TypeId} {z:Array Value} {n bt B:Nat} (hL:LaysAs P t z) (hz:z.size=n) (ho:o.op=.alloc t) (hT:IsTp W bt) (hB:B≤W.heap.size) :
  GY P fin o W (fun v w''=>Drew W bt w''∧EvNew B n v w'') :=
 GY.value (hL o ho fin W) ⟨(Drew.refl hT).alloc _,W.heap.size,z.toList,rfl,hB,by have:=At.fresh W z.toList t rfl;simpa using this,by simp [hz]⟩
theorem GY.callOf {P:Program} {fin:Act} {o:Oper} {W:World} {f:FuncId} {args:Array Value} {D:Value→World→Prop} (h:(execOp fin.eval o).run P W=.ok (.enter f args) W) (hD:Calls P f args W (fun e w3=>∃ v,e=.returned v∧D v w3)):GY P fin o W D:=GY.call h hD
theorem qfO {P:Program} {ops:Array Oper} {fin:Act} {G:List Nat} {Rw:Nat→Prop} {C:World→Prop} {skip:Nat→Bool} {k:Nat} {o:Oper} {l:List Oper} (h:(∀ g∈G,waitsIn ops 8 k g=true→Rw g)→wpQuiet P ops C (fun a'=>a'=fin) [o] fin) (h2:flowXG P ops C G Rw fin skip (k+1) l):flowXG P ops C G Rw fin skip k (o::l):=⟨.inr h,h2⟩
theorem qkW {P:Program} {ops:Array Oper} {w:World} {Q:Act→Prop} {a:Act} {op:Oper} {rest:List Oper} {v:Value} (hgd:Region.wanted op (yielded ops a.tmps)=true)
  (hr:∀ W,Below w.heap.size w W→(execOp a.eval op).run P W=.ok (.value v) W)
  (h:wpQuiet P ops (fun w'=>∃ p:GB,w'=gw w p.d p.os) Q rest (a.put op.dst v)) :
  wpQuiet P ops (fun w'=>∃ p:GB,w'=gw w p.d p.os) Q (op::rest) a:=by
 refine wpQuiet_step (fun K hK=>?_);rw [if_pos hgd];refine ⟨v,fun W hW=>?_,hK _ h⟩;obtain ⟨p,rfl⟩:=hW;unfold Oper.quietAt;rw [hr _ (qbG w p.d p.os)];exact ⟨rfl,rfl⟩
theorem jaM {P:Program} {op:Oper} {a:Act} {ts te tt:TypeId} {x:Operand} {g:Nat} {c:Int} {sk:ByteArray} {W:World} (ho:op.op=.convert ts tt x) (hx:a.eval x=.slice (some ⟨g,0,none⟩) 1 1)
  (hs:P.underlying ts=some (.slice te)) (he:P.underlying te=some (.int .u8)) (ht:P.underlying tt=some .string) (hc:W.cell? ⟨g,0,none⟩=some (.int .u8 c)) (hk:sk=strOfNums [c]) :
  (execOp a.eval op).run P W=.ok (.value (.string sk)) W:=by
 have hcv:=run_convert_bytes_arg (P:=P) W ts te hs he g 0 1 1 [c] rfl (fun i hi=>by
  obtain rfl:i=0:=by omega
  exact hc) tt ht
 unfold execOp;simp only [ho,hx,Sem.run_bind,hcv,Result.andThen_ok,←hk];rfl
end Go.Proofs.YtemoddmadfoaiaaGreat
