import Init
set_option linter.unusedVariables false
set_option linter.unusedSimpArgs false
namespace Go.Proofs.YtemoddmadfoaiaaGreat.Ap
def sumL:List Nat→Nat
 | []=>0
 | x::l=>x+sumL l
theorem qrD (a b:List Nat):sumL (a++b)=sumL a+sumL b:=by
 induction a with
 | nil=>simp [sumL]
 | cons x a ih=>simp [sumL,ih];omega
theorem quZ {a b:List Nat} (h:a.Perm b):sumL a=sumL b:=by
 induction h with
 | nil=>rfl
 | cons x _ ih=>simp [sumL,ih]
 | swap x y l=>simp [sumL];omega
 | trans _ _ h1 h2=>exact h1.trans h2
theorem qkB {l:List Nat} {c:Nat} (h:∀ x∈l,x=c):sumL l=l.length*c:=by
 induction l with
 | nil=>simp [sumL]
 | cons x l ih =>
  simp only [sumL,List.length_cons];rw [ih (fun y hy=>h y (by simp [hy])),h x (by simp),Nat.add_mul];omega
theorem qvA {l:List Nat} {c:Nat} (h:∀ x∈l,x≤c):sumL l≤l.length*c:=by
 induction l with
 | nil=>simp [sumL]
 | cons x l ih =>
  simp only [sumL,List.length_cons];have h1:=ih (fun y hy=>h y (by simp [hy]));have h2:=h x (by simp);rw [Nat.add_mul];omega
theorem jaE {l:List Nat} {x:Nat} (h:x∈l):x≤sumL l:=by
 induction l with
 | nil=>simp at h
 | cons y l ih =>
  simp only [sumL];rcases List.mem_cons.1 h with rfl|h
  ·omega
  ·have:=ih h;omega
theorem qhZ {α:Type} (l:List α) (f g:α→Nat):sumL (l.map fun i=>f i+g i)=sumL (l.map f)+sumL (l.map g):=by
 induction l with
 | nil=>rfl
 | cons x l ih=>simp only [List.map_cons,sumL,ih];omega
theorem qhY {α:Type} (l:List α) (f:α→Nat) (c:Nat):sumL (l.map fun i=>c*f i)=c*sumL (l.map f):=by
 induction l with
 | nil=>simp [sumL]
 | cons x l ih=>simp only [List.map_cons,sumL,ih,Nat.mul_add]
theorem qkL (l:List Nat):l=(List.range l.length).map fun i=>l.getD i 0:=by
 apply List.ext_getElem
 ·simp
 ·intro i h1 h2;simp [List.getD,h1]
theorem qgW {α β:Type} {l:List α} {f g:α→β} (h:∀ x∈l,f x=g x):l.map f=l.map g:=by
 apply List.map_congr_left;exact h
def R (r:Nat→Nat) (i j:Nat):Prop:=r j<r i∨(r i=r j∧i<j)
theorem R.trans {r:Nat→Nat} {i j k:Nat} (h:R r i j) (h2:R r j k):R r i k:=by unfold R at *;omega
def quo (t:Nat) (ws:List Nat) (i:Nat):Nat:=t*ws.getD i 0 / sumL ws
def rest (t:Nat) (ws:List Nat) (i:Nat):Nat:=t*ws.getD i 0%sumL ws
def miss (t:Nat) (ws:List Nat):Nat:=t - sumL ((List.range ws.length).map (quo t ws))
def Parts (t:Nat) (ws:List Nat) (p:List Nat):Prop :=
 ∃ o:List Nat,o.Perm (List.range ws.length)∧o.Pairwise (R (rest t ws))∧p.length=ws.length∧∀ i,i<ws.length→p.getD i 0=quo t ws i+if i∈o.take (miss t ws) then 1 else 0
theorem qzT (t:Nat) (ws:List Nat):sumL ((List.range ws.length).map (quo t ws))*sumL ws+sumL ((List.range ws.length).map (rest t ws))=t*sumL ws:=by
 have h1:sumL ((List.range ws.length).map fun i=>sumL ws*quo t ws i+rest t ws i)=sumL ((List.range ws.length).map fun i=>t*ws.getD i 0):=by
  congr 1;apply qgW;intro i _;unfold quo rest;exact Nat.div_add_mod _ _
 rw [qhZ,qhY,qhY,←qkL,Nat.mul_comm] at h1;exact h1
theorem qwX (t:Nat) (ws:List Nat) (hs:0<sumL ws):sumL ((List.range ws.length).map (quo t ws))+miss t ws=t∧miss t ws*sumL ws=sumL ((List.range ws.length).map (rest t ws)):=by
 have h:=qzT t ws;have h1:sumL ((List.range ws.length).map (quo t ws))≤t:=Nat.le_of_mul_le_mul_right (by omega:_*sumL ws≤t*sumL ws) hs;have h2:sumL ((List.range ws.length).map (quo t ws))+miss t ws=t:=by unfold miss;omega
 refine ⟨h2,?_⟩;rw [←h2,Nat.add_mul] at h;rw [h2] at h;omega
theorem jeC (t:Nat) (ws:List Nat) (hs:0<sumL ws) (i:Nat):rest t ws i<sumL ws:=Nat.mod_lt _ hs
theorem jfE (t:Nat) (ws:List Nat) (hs:0<sumL ws):miss t ws≤ws.length:=by
 have h:=(qwX t ws hs).2
 have h2:sumL ((List.range ws.length).map (rest t ws))≤((List.range ws.length).map (rest t ws)).length*sumL ws:=qvA (by
  intro x hx;obtain ⟨i,_,rfl⟩:=List.mem_map.1 hx;exact Nat.le_of_lt (jeC t ws hs i))
 rw [List.length_map,List.length_range,←h] at h2;exact Nat.le_of_mul_le_mul_right h2 hs
theorem qtY {o:List Nat} (hn:o.Nodup) (m:Nat) (hm:m≤o.length):sumL (o.map fun i=>if i∈o.take m then 1 else 0)=m:=by
 have e:(o.map fun i=>if i∈o.take m then 1 else 0)=(o.take m).map (fun _=>1)++(o.drop m).map (fun _=>0):=by
  conv=>lhs;rw [show (o.map fun i=>if i∈o.take m then 1 else 0)=(o.take m++o.drop m).map (fun i=>if i∈o.take m then 1 else 0) by rw [List.take_append_drop]]
  rw [List.map_append];congr 1
  ·apply qgW;intro x hx;rw [if_pos hx]
  ·apply qgW;intro x hx
   rw [←List.take_append_drop m o] at hn;rw [if_neg (fun h=>(List.nodup_append.1 hn).2.2 x h x hx rfl)]
 rw [e,qrD,qkB (c:=1) (by intro x hx;obtain ⟨_,_,rfl⟩:=List.mem_map.1 hx;rfl),qkB (c:=0) (by intro x hx;obtain ⟨_,_,rfl⟩:=List.mem_map.1 hx;rfl)]
 simp;omega
theorem qwK {t:Nat} {ws p:List Nat} (hs:0<sumL ws) (h:Parts t ws p):sumL p=t:=by
 obtain ⟨o,hp,ho,hl,hv⟩:=h;rw [qkL p,hl,qgW (fun i hi=>hv i (by simpa using hi)),qhZ];have hn:o.Nodup:=hp.nodup_iff.2 List.nodup_range
 have e:sumL ((List.range ws.length).map fun i=>if i∈o.take (miss t ws) then 1 else 0)=miss t ws:=by
  rw [quZ (hp.symm.map _)];exact qtY hn _ (by rw [hp.length_eq,List.length_range];exact jfE t ws hs)
 rw [e];exact (qwX t ws hs).1
def rnd (t s c:Nat):Nat:=if s - t*c%s<t*c%s∨(t*c%s=s - t*c%s∧t*c / s%2=1) then t*c / s+1 else t*c / s
def spreadL (t s:Nat):Nat→Nat→List Nat→List Int
 | _,_,[]=>[]
 | b,c,w::ws=>(((rnd t s (c+w):Nat):Int) - (b:Int))::spreadL t s (rnd t s (c+w)) (c+w) ws
theorem qsX (t s:Nat):∀ (ws:List Nat) (b c:Nat),(spreadL t s b c ws).length=ws.length:=by
 intro ws
 induction ws with
 | nil=>intro b c;rfl
 | cons w ws ih=>intro b c;simp [spreadL,ih]
theorem jgO (t s c:Nat):t*c / s≤rnd t s c∧rnd t s c≤t*c / s+1:=by unfold rnd;split<;>omega
end Go.Proofs.YtemoddmadfoaiaaGreat.Ap
