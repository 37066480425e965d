import Derived.Test.YtooeabibhjbkoaaGreatBiX
import Derived.Test.YtooeabibhjbkoaaGreatBkO
import Derived.Great.BuildSlice
set_option linter.unusedVariables false
set_option linter.unusedSimpArgs false
namespace Go.Proofs.YtooeabibhjbkoaaGreat
open Go.RowKit Big
theorem At.sets {w:World} {b o:Nat} {cs:List Value} (h:At w b o cs) {b2:Nat} (hb:b2≠b) (o2:Nat) (vs:List Value):At (w.setCells b2 o2 vs) b o cs :=
 ⟨qaH h.range vs b2 o2 hb,qaQ h.there vs o2 hb,by rw [qbC];exact h.lt⟩
def SlAt (n:Nat) (cs:List Value) (v:Value) (w:World):Prop:=∃ b,v=.slice (some ⟨b,0,none⟩) n n∧At w b 0 cs
def ftSl (v:Value) (q:Nat):Prop:=∃ n c,v=.slice (some ⟨q,0,none⟩) n c
theorem GY.build {P:Program} {fin:Act} {o:Oper} {W:World} {t e:TypeId} {len s:Nat} {parts:Array (Nat × Operand)} (css:List (List Value)) (ho:o.op=.buildSlice t len parts)
  (hparts:(parts.map fun (i,x)=>(i,fin.eval x)).toList=((css.map fun c=>Value.agg c.toArray).zipIdx 0).map fun x=>(x.2,x.1)) (hlen:len=css.length) (hpos:0<len) (hs:0<s) (hcs:∀ c∈css,c.length=s) (hsmall:len*s≤2^24)
  (hu:P.underlying t=some (.slice e)) (hsz:(P.info? e).map (·.size)=some s) (hz:((P.info? e).bind (·.zero)).isSome=true) {X:Nat→Prop} :
  GY P fin o W (fun v w''=>Below W.heap.size W w''∧SlAt len css.flatten v w''∧∀ q,ftSl v q→(W.heap.size≤q∧q<w''.heap.size)∨X q):=by
 cases hie:P.info? e with
 | none=>simp [hie] at hsz
 | some ie =>
  simp only [hie,Option.map_some,Option.some.injEq,Option.bind_some] at hsz hz
  obtain ⟨z,hzz⟩:=Option.isSome_iff_exists.1 hz
  have hfl:(css.map fun c=>Value.agg c.toArray).flatMap (fun v=>v.cells.toList)=css.flatten:=by
   rw [List.flatMap_map]
   induction css with
   | nil=>rfl
   | cons c l ih=>simp [List.flatMap_cons,Value.cells]
  have hrun:(execOp fin.eval o).run P W=.ok (.value (.slice (some ⟨W.heap.size,0,none⟩) len len)) (W.alloc (.cells css.flatten.toArray e)):=by
   unfold execOp
   have hp:0<len*ie.size:=Nat.mul_pos hpos (by omega)
   simp only [ho,Sem.run_bind,run_buildSlice W t e len _ _ ie z hu hie hzz (by rw [hsz];omega) (by omega) (by
    rw [hparts,hsz]
    exact Great.fill_whole hs _ _ (fun v hv=>by obtain ⟨c,hc,rfl⟩:=List.mem_map.1 hv;simpa [Value.cells] using hcs c hc) (by simp [hlen])),Result.andThen_ok]
   rw [hfl];rfl
  refine GY.value hrun ⟨(Below.refl _ _).alloc (Nat.le_refl _) _,⟨W.heap.size,rfl,At.fresh W css.flatten e rfl⟩,fun q hq=>?_⟩
  obtain ⟨n,c,hq⟩:=hq
  injection hq with h1 h2 h3
  injection h1 with h1
  injection h1 with h1
  exact .inl ⟨by omega,by simp;omega⟩
theorem qhD {P:Program} {ops:Array Oper} {rest:List Oper} {o:Oper} {a:Act} {w:World} {Q:Exit→Act→World→Prop} (hg:o.guard=none) {t e:TypeId} {len s:Nat} {parts:Array (Nat × Operand)} (css:List (List Value)) (ho:o.op=.buildSlice t len parts)
  (hparts:(parts.map fun (i,x)=>(i,a.eval x)).toList=((css.map fun c=>Value.agg c.toArray).zipIdx 0).map fun x=>(x.2,x.1)) (hlen:len=css.length) (hpos:0<len) (hs:0<s) (hcs:∀ c∈css,c.length=s) (hsmall:len*s≤2^24)
  (hu:P.underlying t=some (.slice e)) (hsz:(P.info? e).map (·.size)=some s) (hz:((P.info? e).bind (·.zero)).isSome=true)
  (h:wpList P ops Q rest (a.put o.dst (.slice (some ⟨w.heap.size,0,none⟩) len len)) (w.alloc (.cells css.flatten.toArray e))):wpList P ops Q (o::rest) a w:=by
 cases hie:P.info? e with
 | none=>simp [hie] at hsz
 | some ie =>
  simp only [hie,Option.map_some,Option.some.injEq,Option.bind_some] at hsz hz
  obtain ⟨z,hzz⟩:=Option.isSome_iff_exists.1 hz
  have hp:0<len*ie.size:=Nat.mul_pos hpos (by omega)
  refine wpList_buildSlice hg t e len parts ho _ ie z hu hie hzz (by rw [hsz];omega) (by omega) (by
    rw [hparts,hsz]
    exact Great.fill_whole hs _ _ (fun v hv=>by obtain ⟨c,hc,rfl⟩:=List.mem_map.1 hv;simpa [Value.cells] using hcs c hc) (by simp [hlen])) ?_
  have hfl:(css.map fun c=>Value.agg c.toArray).flatMap (fun v=>v.cells.toList)=css.flatten:=by
   rw [List.flatMap_map]
   induction css with
   | nil=>rfl
   | cons c l ih=>simp [List.flatMap_cons,Value.cells]
  rw [hfl];exact h
theorem qcH {P:Program} {ops:Array Oper} {rest:List Oper} {o:Oper} {a:Act} {w:World} {Q:Exit→Act→World→Prop} (hg:o.guard=none) {t e:TypeId} {s:Nat} {parts:Array (Nat × Operand)} (c:List Value) (ho:o.op=.buildSlice t 1 parts)
  (hparts:(parts.map fun (i,x)=>(i,a.eval x)).toList=[(0,.agg c.toArray)]) (hs:0<s) (hcs:c.length=s) (hsmall:1*s≤2^24)
  (hu:P.underlying t=some (.slice e)) (hsz:(P.info? e).map (·.size)=some s) (hz:((P.info? e).bind (·.zero)).isSome=true)
  (h:wpList P ops Q rest (a.put o.dst (.slice (some ⟨w.heap.size,0,none⟩) 1 1)) (w.alloc (.cells c.toArray e))):wpList P ops Q (o::rest) a w :=
 qhD hg (len:=1) [c] ho hparts rfl (by decide) hs (fun x hx=>by rw [List.mem_singleton.1 hx];exact hcs) hsmall hu hsz hz (by simpa using h)
end Go.Proofs.YtooeabibhjbkoaaGreat
