import Derived.Test.YtnkmhbiklffjlaaBiE
import Derived.Test.YtnkmhbiklffjlaaToA
set_option linter.unusedVariables false
set_option linter.unusedSimpArgs false
set_option maxRecDepth 100000
namespace Go.Proofs.Ytnkmhbiklffjlaa
theorem zz1 {α:Type} (l:List α) (i:Nat) (a:α):l.toArray.setIfInBounds i a=(l.set i a).toArray:=List.setIfInBounds_toArray l i a
theorem zz2 {α:Type} (x a:α) (l:List α):(x::l).set 0 a=a::l:=rfl
theorem zz3 {α:Type} (x a:α) (l:List α) (i:Nat):(x::l).set (i+1) a=x::l.set i a:=rfl
theorem zq:(∀ (a:Act) (d:Tmp) (v:Value),Act.put a (some d) v={ a with tmps:=a.tmps.setIfInBounds d v })∧(∀ (a:Act) (v:Value),Act.put a none v=a)∧(∀ {α:Type} (l:List α) (i:Nat) (a:α),l.toArray.setIfInBounds i a=(l.set i a).toArray)∧(∀ {α:Type} (x a:α) (l:List α),(x::l).set 0 a=a::l)∧(∀ {α:Type} (x a:α) (l:List α) (i:Nat),(x::l).set (i+1) a=x::l.set i a):=⟨fun _ _ _=>rfl,fun _ _=>rfl,fun _ _ _=>List.setIfInBounds_toArray _ _ _,fun _ _ _=>rfl,fun _ _ _ _=>rfl⟩
theorem zr:(∀ {α β:Type} (f:β→α→β) (b:β) (a:α) (l:List α),(a::l).foldl f b=l.foldl f (f b a))∧(∀ {α β:Type} (f:β→α→β) (b:β),([]:List α).foldl f b=b)∧(∀ {h:Decidable True} (t e:Act),@ite Act True h t e=t)∧(∀ {h:Decidable False} (t e:Act),@ite Act False h t e=e)∧(false=true)=False:=⟨fun _ _ _ _=>rfl,fun _ _=>rfl,fun _ _=>if_pos trivial,fun _ _=>if_neg not_false,by simp⟩
theorem mms {α:Type} {a:α} {l:List α}:a∈a::l:=List.mem_cons_self
theorem wqn {P:Program} {ops:Array Oper} {C:World→Prop} {Q:Act→Prop} {a:Act} (h:Q a):wpQuiet P ops C Q [] a:=wpQuiet_nil h
theorem zz4 {α β:Type} (f:β→α→β) (b:β) (a:α) (l:List α):(a::l).foldl f b=l.foldl f (f b a):=rfl
theorem zz5 {α β:Type} (f:β→α→β) (b:β):([]:List α).foldl f b=b:=rfl
open Go.RowKit
structure Pl where
  new:Bool
  i:Nat
  d:Tmp
  s:Nat
  b:Nat
  o:Nat
  ty:TypeId
  x:Tmp
  cs:List Value
  so:Nat
  scs:List Value
  pre:List Value
def Pl.blk (β:Nat→Nat) (p:Pl):Nat:=if p.new then β p.i else p.b
def isA (pl:List Pl) (k:Nat):Bool:=pl.any fun p=>p.new&&p.i==k
def isS (pl:List Pl) (k:Nat):Bool:=pl.any fun p=>p.s==k
def waitsIn (ops:Array Oper):Nat→Nat→Nat→Bool
  | 0,_,_=>false
  | f+1,s,k=>match ops[s]? with|some o=>o.after.any (fun e=>Region.binds .any e&&(e.on==k || waitsIn ops f e.on k))|none=>false
def early (ops:Array Oper) (pl:List Pl) (k:Nat):Bool:=pl.all fun p=>p.new || waitsIn ops 4 p.s k
def dstIs (ops:Array Oper) (i:Nat) (t:Tmp):Bool:=match ops[i]? with|some o=>o.dst==some t|none=>false
def opB (ops:Array Oper) (pl:List Pl) (L:List Tmp) (j:Nat) (o:Oper):Bool :=
  o.after.all (fun e=>!Region.binds .any e || decide (e.on<j)) &&
  (o.looksAt ops).all (fun t=>(List.range ops.size).all fun i=>!dstIs ops i t || (if L.contains t then waitsIn ops 4 i j else Region.waitsFor .any ops j i)) &&
  (!(o.looksAt ops).any (L.contains ·) || (match o.dst with|some d=>!L.contains d|none=>true)) &&
  (match o.dst with|some d=>(List.range ops.size).all (fun i=>i==j || !dstIs ops i d)|none=>true) &&
  (isS pl j || pl.all fun p=>!p.new || !(o.looksAt ops).contains p.d)
def placeB (ops:Array Oper) (pl:List Pl) (L:List Tmp) (p:Pl):Bool :=
  !L.contains p.x&&!L.contains p.d &&
  (match ops[p.s]? with
    | some o=>o.guard.isNone&&o.dst.isNone&&(match o.op with|.store ty (.tmp d) (.tmp t)=>ty==p.ty&&d==p.d&&t==p.x&&pl.all (fun q=>!q.new || q.d != t)|_=>false)
    | none=>false) &&
  (if p.new then (match ops[p.i]? with|some o=>o.guard.isNone&&(match o.dst with|some d=>d==p.d|none=>false)&&(match o.op with|.alloc ty=>ty==p.ty|_=>false)|none=>false)&&Region.waitsFor .any ops p.s p.i&&p.o==0&&!isS pl p.i
   else pl.all (fun q=>!q.new || q.d != p.d))
def pairB (f:Pl→Pl→Bool):List Pl→Bool
  | []=>true
  | p::l=>l.all (f p)&&pairB f l
def plB (p q:Pl):Bool:=p.s != q.s&&(!p.new || !q.new || (p.i != q.i&&p.d != q.d))
def flowBL (ops:Array Oper) (pl:List Pl) (L:List Tmp) (ts:List Tmp) (n:Nat):Bool :=
  Region.noSelect ops&&(List.range ops.size).all (fun j=>match ops[j]? with|none=>true|some o=>opB ops pl L j o)&&pl.all (placeB ops pl L)&&pairB plB pl &&
  ts.all (fun t=>decide (t<n)&&(List.range ops.size).any fun i=>dstIs ops i t&&!isA pl i)&&pl.all (fun p=>!p.new || decide (p.d<n))
def flowB (ops:Array Oper) (pl:List Pl) (ts:List Tmp) (n:Nat):Bool:=flowBL ops pl [] ts n
def frm (ops:Array Oper) (L:List Tmp) (fin fin2:Act) (o:Oper):Act:=if (o.looksAt ops).any (L.contains ·)=true then fin2 else fin
theorem pairB_spec {f:Pl→Pl→Bool} (hf:∀ p q,f p q=f q p):∀ {l:List Pl},pairB f l=true→∀ p∈l,∀ q∈l,p=q∨f p q=true
  | [],_,p,hp,_,_=>by cases hp
  | x::l,h,p,hp,q,hq=>by
    simp only [pairB,Bool.and_eq_true] at h
    rcases List.mem_cons.1 hp with e1|h1
    · rcases List.mem_cons.1 hq with e2|h2
      · exact .inl (e1.trans e2.symm)
      · exact .inr (by rw [e1];exact List.all_eq_true.1 h.1 q h2)
    · rcases List.mem_cons.1 hq with e2|h2
      · exact .inr (by rw [hf,e2];exact List.all_eq_true.1 h.1 p h1)
      · exact pairB_spec hf h.2 p h1 q h2
theorem plB_symm (p q:Pl):plB p q=plB q p:=by
  unfold plB
  have e:∀ a b:Nat,(a != b)=(b != a):=fun a b=>by rw [bne_comm]
  rw [e p.s,e p.i,e p.d]
  cases p.new<;>cases q.new<;>simp
theorem heap_sets (k b:Nat) (hk:k≠b):∀ (vs:List Value) (o:Nat) (w:World),(w.setCells b o vs).heap[k]?=w.heap[k]?
  | [],_,_=>rfl
  | v::vs,o,w=>by rw [World.setCells,heap_sets k b hk vs];exact Below.heap_setCell _ _ _ _ (by simpa using hk)
theorem sets_os (b:Nat):∀ (vs:List Value) (o:Nat) (w:World),(w.setCells b o vs).os=w.os∧(w.setCells b o vs).tape=w.tape∧(w.setCells b o vs).output=w.output
  | [],_,_=>⟨rfl,rfl,rfl⟩
  | v::vs,o,w=>sets_os b vs (o+1) (w.setCell ⟨b,o,none⟩ v)
structure FlowJ (ops:Array Oper) (pl:List Pl) (fin ini:Act) (W:World) (β:Nat→Nat) (seen:Array Bool) (a:Act) (w:World):Prop where
  ssz:seen.size=ops.size
  closed:∀ j oj,ops[j]?=some oj→seen.getD j false=true→∀ e∈oj.after,Region.binds .any e=true→seen.getD e.on false=true
  size:a.tmps.size=fin.tmps.size
  defers:a.defers=fin.defers
  same:∀ t,(∀ p∈pl,p.new=true→p.d≠t)→(∀ (i:Nat) (o:Oper),ops[i]?=some o→o.dst=some t→seen.getD i false=true)→a.tmps[t]?=fin.tmps[t]?
  init:∀ t,(∀ (i:Nat) (o:Oper),ops[i]?=some o→o.dst=some t→seen.getD i false=false)→a.tmps[t]?=ini.tmps[t]?
  os:w.os=W.os
  tape:w.tape=W.tape
  output:w.output=W.output
  big:W.heap.size≤w.heap.size
  keep:∀ k,k<W.heap.size→(∀ p∈pl,p.new=false→p.b=k→seen.getD p.s false=false)→w.heap[k]?=W.heap[k]?
  laid:∀ p∈pl,p.new=true→seen.getD p.i false=true→W.heap.size≤β p.i∧β p.i<w.heap.size∧a.tmps[p.d]?=some (.pointer (some ⟨β p.i,0,none⟩))∧w.there (β p.i) 0 p.cs.length
  old:∀ p∈pl,p.new=false→w.there p.b p.o p.cs.length
  apart:∀ p∈pl,∀ q∈pl,p.new=true→q.new=true→seen.getD p.i false=true→seen.getD q.i false=true→β p.i=β q.i→p.i=q.i
  held:∀ p∈pl,seen.getD p.s false=true→w.rangeAt (p.blk β) p.o p.cs
structure FlowK (pl:List Pl) (W w:World):Prop where
  os:w.os=W.os
  tape:w.tape=W.tape
  output:w.output=W.output
  big:W.heap.size≤w.heap.size
  keep:∀ k,k<W.heap.size→(∀ p∈pl,p.new=false→p.b≠k)→w.heap[k]?=W.heap[k]?
section
variable {P:Program} {ops:Array Oper} {pl:List Pl} {L:List Tmp} {fin fin2 ini:Act} {W:World} {β:Nat→Nat} {seen:Array Bool} {a:Act} {w:World}
theorem set_seen {j i:Nat} (h:(seen.setIfInBounds j true).getD i false=true):j=i∨seen.getD i false=true:=by
  by_cases e:j=i
  · exact .inl e
  · right;rwa [getD_set_ne false e] at h
theorem set_unseen {j i:Nat} (h:(seen.setIfInBounds j true).getD i false=false):seen.getD i false=false:=by
  cases hs:seen.getD i false with
  | false=>rfl
  | true=>rw [getD_set_true hs] at h;cases h
theorem FlowJ.shut (J:FlowJ ops pl fin ini W β seen a w) {j:Nat} (hr:j∈Region.ready .any ops seen) :
    ∀ k ok,ops[k]?=some ok→(seen.setIfInBounds j true).getD k false=true→∀ e∈ok.after,Region.binds .any e=true→(seen.setIfInBounds j true).getD e.on false=true:=by
  obtain ⟨_,oj,hoj,hall⟩:=mem_ready.1 hr
  intro k ok hk hs e he hb
  rcases set_seen hs with rfl|hs
  · obtain rfl:=Option.some.inj (hk.symm.trans hoj)
    exact getD_set_true (hall e he hb)
  · exact getD_set_true (J.closed k ok hk hs e he hb)
theorem waits_seen (hcl:∀ j oj,ops[j]?=some oj→seen.getD j false=true→∀ e∈oj.after,Region.binds .any e=true→seen.getD e.on false=true) {s i:Nat} (h:Region.waitsFor .any ops s i=true) (hs:seen.getD s false=true):seen.getD i false=true:=by
  obtain ⟨o,ho,e,he,hb,rfl⟩:=Region.waitsFor_spec h
  exact hcl s o ho hs e he hb
theorem waitsIn_seen (hcl:∀ j oj,ops[j]?=some oj→seen.getD j false=true→∀ e∈oj.after,Region.binds .any e=true→seen.getD e.on false=true):∀ (f s i:Nat),waitsIn ops f s i=true→seen.getD s false=true→seen.getD i false=true
  | 0,_,_,h,_=>by simp [waitsIn] at h
  | f+1,s,i,h,hs=>by
    unfold waitsIn at h
    split at h
    · rename_i o ho
      obtain ⟨e,he,hb⟩:=Array.any_eq_true'.1 h
      simp only [Bool.and_eq_true,Bool.or_eq_true,beq_iff_eq] at hb
      have h1:=hcl s o ho hs e he hb.1
      rcases hb.2 with rfl|h2
      · exact h1
      · exact waitsIn_seen hcl f e.on i h2 h1
    · cases h
theorem waits_ready {s i:Nat} (h:Region.waitsFor .any ops s i=true) (hs:s∈Region.ready .any ops seen):seen.getD i false=true:=by
  obtain ⟨o,ho,e,he,hb,rfl⟩:=Region.waitsFor_spec h
  obtain ⟨_,o',ho',hall⟩:=mem_ready.1 hs
  obtain rfl:=Option.some.inj (ho.symm.trans ho')
  exact hall e he hb
structure FlowC (ops:Array Oper) (pl:List Pl) (L:List Tmp):Prop where
  sel:∀ (j:Nat) (o:Oper) cs b,ops[j]?=some o→o.op≠.select cs b
  less:∀ (j:Nat) (o:Oper),ops[j]?=some o→∀ e∈o.after,Region.binds .any e=true→e.on<j
  looks:∀ (j:Nat) (o:Oper),ops[j]?=some o→∀ t∈o.looksAt ops,t∉L→∀ (i:Nat) (oi:Oper),ops[i]?=some oi→oi.dst=some t→Region.waitsFor .any ops j i=true
  looksL:∀ (j:Nat) (o:Oper),ops[j]?=some o→∀ t∈o.looksAt ops,t∈L→∀ (i:Nat) (oi:Oper),ops[i]?=some oi→oi.dst=some t→waitsIn ops 4 i j=true
  dstL:∀ (j:Nat) (o:Oper),ops[j]?=some o→(o.looksAt ops).any (L.contains ·)=true→∀ d,o.dst=some d→d∉L
  dsts:∀ (j:Nat) (o:Oper) (d:Tmp),ops[j]?=some o→o.dst=some d→∀ (i:Nat) (oi:Oper),ops[i]?=some oi→oi.dst=some d→i=j
  free:∀ (j:Nat) (o:Oper),ops[j]?=some o→isS pl j=false→∀ p∈pl,p.new=true→p.d∉o.looksAt ops
  store:∀ p∈pl,∃ o,ops[p.s]?=some o∧o.guard=none∧o.dst=none∧o.op=.store p.ty (.tmp p.d) (.tmp p.x)∧(∀ q∈pl,q.new=true→q.d≠p.x)∧p.x∉L∧p.d∉L
  lay:∀ p∈pl,p.new=true→∃ o,ops[p.i]?=some o∧o.guard=none∧o.dst=some p.d∧o.op=.alloc p.ty∧Region.waitsFor .any ops p.s p.i=true∧p.o=0∧isS pl p.i=false
  oldd:∀ p∈pl,p.new=false→∀ q∈pl,q.new=true→q.d≠p.d
  two:∀ p∈pl,∀ q∈pl,p=q∨(p.s≠q.s∧(p.new=true→q.new=true→p.i≠q.i∧p.d≠q.d))
theorem dstIs_iff {i:Nat} {t:Tmp}:dstIs ops i t=true↔∃ o,ops[i]?=some o∧o.dst=some t:=by
  unfold dstIs
  cases h:ops[i]? with
  | none=>simp
  | some o=>simp
theorem flowC {ts:List Tmp} {n:Nat} (h:flowBL ops pl L ts n=true):FlowC ops pl L∧(∀ t∈ts,t<n∧∃ i o,ops[i]?=some o∧o.dst=some t∧isA pl i=false)∧∀ p∈pl,p.new=true→p.d<n:=by
  simp only [flowBL,Bool.and_eq_true] at h
  obtain ⟨⟨⟨⟨⟨h1,h2⟩,h3⟩,h4⟩,h5⟩,h6⟩:=h
  have h2':∀ j o,ops[j]?=some o→opB ops pl L j o=true:=fun j o ho=>by
    have:=List.all_eq_true.1 h2 j (List.mem_range.2 (Array.getElem?_eq_some_iff.1 ho).1)
    simpa [ho] using this
  have inR:∀ i o,ops[i]?=some o→i∈List.range ops.size:=fun i o ho=>List.mem_range.2 (Array.getElem?_eq_some_iff.1 ho).1
  refine ⟨⟨Region.noSelect_spec h1,?_,?_,?_,?_,?_,?_,?_,?_,?_,?_⟩,?_,?_⟩
  · intro j o ho e he hb
    have:=h2' j o ho
    simp only [opB,Bool.and_eq_true] at this
    have:=Array.all_eq_true_iff_forall_mem.1 this.1.1.1.1 e he
    simpa [hb] using this
  · intro j o ho t ht htL i oi hi hd
    have:=h2' j o ho
    simp only [opB,Bool.and_eq_true] at this
    have:=List.all_eq_true.1 (List.all_eq_true.1 this.1.1.1.2 t ht) i (inR i oi hi)
    have hdi:dstIs ops i t=true:=dstIs_iff.2 ⟨oi,hi,hd⟩
    have hc:L.contains t=false:=by simpa using htL
    rw [hc] at this
    simpa [hdi] using this
  · intro j o ho t ht htL i oi hi hd
    have:=h2' j o ho
    simp only [opB,Bool.and_eq_true] at this
    have:=List.all_eq_true.1 (List.all_eq_true.1 this.1.1.1.2 t ht) i (inR i oi hi)
    have hdi:dstIs ops i t=true:=dstIs_iff.2 ⟨oi,hi,hd⟩
    have hc:L.contains t=true:=by simpa using htL
    rw [hc] at this
    simpa [hdi] using this
  · intro j o ho hany d hd
    have:=h2' j o ho
    simp only [opB,Bool.and_eq_true] at this
    have:=this.1.1.2
    rw [hany,hd] at this
    simpa using this
  · intro j o d ho hd i oi hi hdi
    have:=h2' j o ho
    simp only [opB,Bool.and_eq_true,hd] at this
    have:=List.all_eq_true.1 this.1.2 i (inR i oi hi)
    have hdi:dstIs ops i d=true:=dstIs_iff.2 ⟨oi,hi,hdi⟩
    simpa [hdi] using this
  · intro j o ho hs p hp hn
    have:=h2' j o ho
    simp only [opB,Bool.and_eq_true,hs,Bool.false_or] at this
    have:=List.all_eq_true.1 this.2 p hp
    simpa [hn] using this
  · intro p hp
    have:=List.all_eq_true.1 h3 p hp
    simp only [placeB,Bool.and_eq_true] at this
    have hLx:p.x∉L:=by simpa using this.1.1.1
    have hLd:p.d∉L:=by simpa using this.1.1.2
    have:=this.1.2
    split at this
    · rename_i o ho
      simp only [Bool.and_eq_true,Option.isNone_iff_eq_none] at this
      obtain ⟨⟨hg,hd⟩,hm⟩:=this
      split at hm
      · rename_i ty d t hop
        simp only [Bool.and_eq_true,beq_iff_eq] at hm
        obtain ⟨⟨⟨rfl,rfl⟩,rfl⟩,hm⟩:=hm
        exact ⟨o,ho,hg,hd,hop,fun q hq hn=>by have:=List.all_eq_true.1 hm q hq;simpa [hn] using this,hLx,hLd⟩
      · cases hm
    · cases this
  · intro p hp hn
    have:=List.all_eq_true.1 h3 p hp
    simp only [placeB,Bool.and_eq_true,hn,if_true] at this
    obtain ⟨⟨⟨this,hw⟩,ho0⟩,hs⟩:=this.2
    split at this
    · rename_i o ho
      simp only [Bool.and_eq_true,Option.isNone_iff_eq_none] at this
      obtain ⟨⟨hg,hd⟩,hm⟩:=this
      split at hd
      · rename_i d hdd
        split at hm
        · rename_i ty hop
          simp only [beq_iff_eq] at hd ho0 hm
          subst hd
          subst hm
          exact ⟨o,ho,hg,hdd,hop,hw,ho0,by simpa using hs⟩
        · cases hm
      · cases hd
    · cases this
  · intro p hp hn q hq hqn
    have:=List.all_eq_true.1 h3 p hp
    simp only [placeB,Bool.and_eq_true,hn,Bool.false_eq_true,if_false] at this
    have:=List.all_eq_true.1 this.2 q hq
    simpa [hqn] using this
  · intro p hp q hq
    rcases pairB_spec plB_symm h4 p hp q hq with rfl|h
    · exact .inl rfl
    · right
      simp only [plB,Bool.and_eq_true,bne_iff_ne,ne_eq] at h
      refine ⟨h.1,fun hp' hq'=>?_⟩
      have:=h.2
      simpa [hp',hq'] using this
  · intro t ht
    have:=List.all_eq_true.1 h5 t ht
    simp only [Bool.and_eq_true,decide_eq_true_eq] at this
    obtain ⟨i,hi,hb⟩:=List.any_eq_true.1 this.2
    simp only [Bool.and_eq_true] at hb
    obtain ⟨o,ho,hd⟩:=dstIs_iff.1 hb.1
    exact ⟨this.1,i,o,ho,hd,by simpa using hb.2⟩
  · intro p hp hn
    have:=List.all_eq_true.1 h6 p hp
    simpa [hn] using this
theorem put_at {t:Tmp} {dst:Option Tmp} {v:Value} (h:dst≠some t) (a:Act):(a.put dst v).tmps[t]?=a.tmps[t]?:=by
  cases dst with
  | none=>rfl
  | some d=>simp only [Act.put];exact Array.getElem?_setIfInBounds_ne (by rintro rfl;exact h rfl)
theorem put_size (a:Act) (dst:Option Tmp) (v:Value):(a.put dst v).tmps.size=a.tmps.size:=by cases dst<;>simp [Act.put]
theorem put_defers (a:Act) (dst:Option Tmp) (v:Value):(a.put dst v).defers=a.defers:=by cases dst<;>rfl
theorem FlowJ.sees (C:FlowC ops pl L) (J:FlowJ ops pl fin ini W β seen a w) {j:Nat} {oj:Oper} (hr:j∈Region.ready .any ops seen) (hoj:ops[j]?=some oj) {t:Tmp} (ht:t∈oj.looksAt ops) (htL:t∉L) (hp:∀ p∈pl,p.new=true→p.d≠t):a.tmps[t]?=fin.tmps[t]? :=
  J.same t hp fun i o hi hd=>waits_ready (C.looks j oj hoj t ht htL i o hi hd) hr
theorem FlowJ.seesL (C:FlowC ops pl L) (J:FlowJ ops pl fin ini W β seen a w) {j:Nat} {oj:Oper} (hr:j∈Region.ready .any ops seen) (hoj:ops[j]?=some oj) {t:Tmp} (ht:t∈oj.looksAt ops) (htL:t∈L):a.tmps[t]?=ini.tmps[t]? :=
  J.init t fun i o hi hd=>by
    cases hs:seen.getD i false with
    | false=>rfl
    | true =>
      have:=waitsIn_seen J.closed _ _ _ (C.looksL j oj hoj t ht htL i o hi hd) hs
      have h0:=(mem_ready.1 hr).1
      rw [getD_both h0] at this;cases this
theorem exec_same {o:Oper} {a b:Act} (hs:∀ cs x,o.op≠.select cs x) (h:∀ t∈o.looksAt ops,a.tmps[t]?=b.tmps[t]?):execOp a.eval o=execOp b.eval o :=
  execOp_congr o hs fun x hx=>by
    cases x with
    | tmp t =>
      have:=h t (List.mem_append_left _ (List.mem_filterMap.2 ⟨.tmp t,by simpa using hx,rfl⟩))
      simp [Act.eval,this]
    | const v=>rfl
    | global g=>rfl
    | func f=>rfl
theorem wanted_same {o:Oper} {a b:Act} (h:∀ t∈o.looksAt ops,a.tmps[t]?=b.tmps[t]?):Region.wanted o (yielded ops a.tmps)=Region.wanted o (yielded ops b.tmps):=by
  unfold Region.wanted
  cases hg:o.guard with
  | none=>rfl
  | some gw =>
    obtain ⟨g,want⟩:=gw
    simp only
    congr 1
    unfold yielded
    cases hd:(ops[g]?).bind (·.dst) with
    | none=>rfl
    | some t =>
      have:a.tmps[t]?=b.tmps[t]?:=h t (List.mem_append_right _ (by simp [hg,hd]))
      simp [this]
theorem FlowJ.move (C:FlowC ops pl L) (J:FlowJ ops pl fin ini W β seen a w) {j:Nat} {oj:Oper} (hr:j∈Region.ready .any ops seen) (hoj:ops[j]?=some oj) (hA:isA pl j=false) (hS:isS pl j=false)
    {v:Value} (hv:fin.put oj.dst v=fin) {w':World} (hb:Below w.heap.size w w'):FlowJ ops pl fin ini W β (seen.setIfInBounds j true) (a.put oj.dst v) w':=by
  have nA:∀ p∈pl,p.new=true→p.i≠j:=fun p hp hn e=>by
    have:isA pl j=true:=List.any_eq_true.2 ⟨p,hp,by simp [hn,e]⟩
    rw [hA] at this;cases this
  have nS:∀ p∈pl,p.s≠j:=fun p hp e=>by
    have:isS pl j=true:=List.any_eq_true.2 ⟨p,hp,by simp [e]⟩
    rw [hS] at this;cases this
  refine ⟨by simp [J.ssz],J.shut hr,by rw [put_size,J.size],by rw [put_defers,J.defers],?_,?_,hb.os.trans J.os,hb.tape.trans J.tape,hb.output.trans J.output,Nat.le_trans J.big hb.size,?_,?_,?_,?_,?_⟩
  · intro t hn hw
    by_cases e:oj.dst=some t
    · rw [e] at hv ⊢
      have h1:fin.tmps[t]?=(fin.put (some t) v).tmps[t]?:=by rw [hv]
      rw [h1]
      simp only [Act.put,Array.getElem?_setIfInBounds,J.size,if_true]
    · rw [put_at e]
      exact J.same t hn fun i o hi hd=>(set_seen (hw i o hi hd)).resolve_left fun e2=>by subst e2;rw [hoj] at hi;cases hi;exact e hd
  · intro t hw
    have hj:oj.dst≠some t:=fun e=>by
      have:=hw j oj hoj e
      have hlt:j<seen.size:=by rw [J.ssz];exact (Array.getElem?_eq_some_iff.1 hoj).1
      simp [hlt] at this
    rw [put_at hj]
    exact J.init t fun i o hi hd=>set_unseen (hw i o hi hd)
  · intro k hk hp
    rw [hb.block k (Nat.lt_of_lt_of_le hk J.big)]
    exact J.keep k hk fun p hp' hn hb'=>set_unseen (hp p hp' hn hb')
  · intro p hp hn hs
    have hs:=(set_seen hs).resolve_left (nA p hp hn).symm
    obtain ⟨h1,h2,h3,h4⟩:=J.laid p hp hn hs
    obtain ⟨o,ho,_,hd,_⟩:=C.lay p hp hn
    refine ⟨h1,Nat.lt_of_lt_of_le h2 hb.size,?_,there_up h4 hb h2⟩
    rw [put_at fun e=>nA p hp hn (C.dsts j oj p.d hoj e p.i o ho hd)]
    exact h3
  · intro p hp hn
    have h:=J.old p hp hn
    intro k hk
    obtain ⟨h1,h2⟩:=h k hk
    obtain ⟨v,hv⟩:=Option.isSome_iff_exists.1 h1
    exact ⟨by rw [qcU hv hb];rfl,by rw [hb.frozen (World.block_lt_of_cell? w _ hv)];exact h2⟩
  · intro p hp q hq hpn hqn h1 h2
    exact J.apart p hp q hq hpn hqn ((set_seen h1).resolve_left (nA p hp hpn).symm) ((set_seen h2).resolve_left (nA q hq hqn).symm)
  · intro p hp hs
    exact ranges_up (J.held p hp ((set_seen hs).resolve_left (nS p hp).symm)) hb
theorem FlowJ.stepX {Q:Exit→Act→World→Prop} (C:FlowC ops pl L) (J:FlowJ ops pl fin ini W β seen a w) {j:Nat} {oj:Oper} (hr:j∈Region.ready .any ops seen) (hoj:ops[j]?=some oj) (hA:isA pl j=false) (hS:isS pl j=false)
    (h2:∀ t,t∉L→fin2.tmps[t]?=fin.tmps[t]?) (h2i:∀ t,t∈L→fin2.tmps[t]?=ini.tmps[t]?) (h2s:fin2.tmps.size=fin.tmps.size)
    (hX:∀ W',FlowK pl W W'→(early ops pl j=true→Below W.heap.size W W')→wpQuiet P ops (fun w'=>∃ p:GB,w'=gw W' p.d p.os) (fun a'=>a'=frm ops L fin fin2 oj) [oj] (frm ops L fin fin2 oj)) :
    wpOp P ops Q j (fun a' w'=>FlowJ ops pl fin ini W β (seen.setIfInBounds j true) a' w') a w:=by
  have hun:=(mem_ready.1 hr).1
  have hfree:∀ t∈oj.looksAt ops,∀ p∈pl,p.new=true→p.d≠t:=fun t ht p hp hn e=>C.free j oj hoj hS p hp hn (by rw [e];exact ht)
  have hlk:∀ t∈oj.looksAt ops,a.tmps[t]?=(frm ops L fin fin2 oj).tmps[t]?:=fun t ht=>by
    unfold frm
    by_cases hL:(oj.looksAt ops).any (L.contains ·)=true
    · rw [if_pos hL]
      by_cases htL:t∈L
      · rw [h2i t htL];exact J.seesL C hr hoj ht htL
      · rw [h2 t htL];exact J.sees C hr hoj ht htL (hfree t ht)
    · rw [if_neg hL]
      have htL:t∉L:=fun h=>hL (List.any_eq_true.2 ⟨t,ht,by simpa using h⟩)
      exact J.sees C hr hoj ht htL (hfree t ht)
  have hput:∀ v,(frm ops L fin fin2 oj).put oj.dst v=frm ops L fin fin2 oj→fin.put oj.dst v=fin:=fun v hv=>by
    unfold frm at hv
    by_cases hL:(oj.looksAt ops).any (L.contains ·)=true
    · rw [if_pos hL] at hv
      cases hd:oj.dst with
      | none=>rfl
      | some d =>
        rw [hd] at hv
        have hdL:=C.dstL j oj hoj hL d hd
        have e1:fin2.tmps[d]?=(fin2.put (some d) v).tmps[d]?:=by rw [hv]
        obtain ⟨ft,fd⟩:=fin
        simp only [Act.put] at e1 ⊢
        congr 1
        apply Array.ext_getElem?
        intro i
        by_cases e:d=i
        · subst e
          have:=h2 d hdL
          simp only at this h2s
          rw [←this,e1,Array.getElem?_setIfInBounds,Array.getElem?_setIfInBounds,h2s]
          simp only [if_true]
        · rw [Array.getElem?_setIfInBounds_ne e]
    · rwa [if_neg hL] at hv
  have h:=hX w ⟨J.os,J.tape,J.output,J.big,fun k hk hp=>J.keep k hk fun p h1 h2 h3=>absurd h3 (hp p h1 h2)⟩ fun he=>⟨J.os,J.tape,J.output,J.big,fun k hk=>J.keep k hk fun p hp hn _=>by
    have h1:=List.all_eq_true.1 he p hp
    rw [hn,Bool.false_or] at h1
    cases hs:seen.getD p.s false with
    | false=>rfl
    | true =>
      have:=waitsIn_seen J.closed _ _ _ h1 hs
      rw [getD_both hun] at this;cases this⟩
  have hex:=exec_same (a:=a) (b:=frm ops L fin fin2 oj) (C.sel j oj · · hoj) hlk
  have hwa:=wanted_same (a:=a) (b:=frm ops L fin fin2 oj) hlk
  simp only [wpQuiet] at h
  unfold wpOp
  simp only [hoj]
  rw [hwa]
  split
  · rename_i hw
    simp only [hw,if_true] at h
    obtain ⟨v,h1,h2'⟩:=h
    have h2:=hput v h2'
    left
    refine Oper.wp_of_quiet (C:=fun w'=>∃ p:GB,w'=gw w p.d p.os) (K:=fun a'=>a'=a.put oj.dst v) (gw_of_below (Below.refl _ _)) ?_ ⟨v,fun w' hw'=>?_,rfl⟩
    · rintro a' w' ⟨p,rfl⟩ rfl
      exact J.move C hr hoj hA hS h2 (qbG w p.d p.os)
    · have:=h1 w' hw'
      unfold Oper.quietAt at *
      rw [hex]
      exact this
  · rename_i hw
    simp only [hw] at h
    exact J.move C hr hoj hA hS (hput _ h) (Below.refl _ _)
theorem there_fresh (X:World) (z:Array Value) (ty:TypeId) {n:Nat} (hn:n≤z.size):(X.alloc (.cells z ty)).there X.heap.size 0 n:=by
  intro j hj
  have hh:=heap_alloc_new X (.cells z ty)
  refine ⟨?_,frozen_of_row _ _ _ _ _ hh⟩
  rw [cell_of_row _ X.heap.size (0+j) z ty (0,0) hh,Array.getElem?_eq_getElem (by omega)];rfl
theorem run_storeVar_v {P:Program} (w:World) (b o:Nat) (ty:TypeId) (v:Value) (ht:w.there b o v.cells.size) (hi:(P.info? ty).map (·.size)=some v.cells.size) (h1:v.cells.all (·.oneCell')=true) :
    (storeVar ty ⟨b,o,none⟩ v).run P w=.ok () (w.setCells b o v.cells.toList):=by
  have:=run_storeCells_cells (P:=P) b o v.cells.toList 0 w (fun j hj=>by simpa using (ht j (by simpa using hj)).1) (fun j hj=>by simpa using (ht j (by simpa using hj)).2)
    (fun v hv=>(Array.all_eq_true_iff_forall_mem.1 h1) v (by simpa using hv))
  cases hq:P.info? ty with
  | none=>simp [hq] at hi
  | some i =>
    have hs:v.cells.size=i.size:=by simp [hq] at hi;omega
    simp only [Nat.add_zero] at this
    simp [storeVar,sizeOf,typeInfo,hq,hs,this]
theorem wp_store_v {P:Program} {op:Oper} {a:Act} {w:World} {K:Act→World→Prop} {Q:Exit→Act→World→Prop} (ty:TypeId) (x y:Operand) (ho:op.op=.store ty x y)
    (b o:Nat) (v:Value) (hx:a.eval x=.pointer (some ⟨b,o,none⟩)) (hy:a.eval y=v)
    (ht:w.there b o v.cells.size) (hi:(P.info? ty).map (·.size)=some v.cells.size) (h1:v.cells.all (·.oneCell')=true)
    (h:K (a.put op.dst undef) (w.setCells b o v.cells.toList)):op.wp P a w K Q:=by
  unfold Oper.wp execOp
  simp only [ho,hx,hy,Instr.storeAt,Instr.sureAddr,Sem.run_bind,Sem.run_pure,Result.andThen_ok,run_storeVar_v w b o ty v ht hi h1]
  exact h
def LaysAs (P:Program) (t:TypeId) (z:Array Value):Prop:=∀ (o:Oper),o.op=.alloc t→∀ (b:Act) (w:World),(execOp b.eval o).run P w=.ok (.value (.pointer (some ⟨w.heap.size,0,none⟩))) (w.alloc (.cells z t))
theorem FlowJ.stepA {Q:Exit→Act→World→Prop} (C:FlowC ops pl L) (J:FlowJ ops pl fin ini W β seen a w) {p:Pl} (hp:p∈pl) (hn:p.new=true) (hr:p.i∈Region.ready .any ops seen) (hd:p.d<fin.tmps.size)
    (hAl:∃ z,LaysAs P p.ty z∧p.cs.length≤z.size) :
    wpOp P ops Q p.i (fun a' w'=>∃ β',FlowJ ops pl fin ini W β' (seen.setIfInBounds p.i true) a' w') a w:=by
  obtain ⟨o,ho,hg,hdd,hop,hws,ho0,hnS⟩:=C.lay p hp hn
  obtain ⟨z,hrun',hz⟩:=hAl
  have hrun:=hrun' o hop
  generalize hty':p.ty=ty' at hrun
  have hun:=(mem_ready.1 hr).1
  have nS:∀ q∈pl,q.s≠p.i:=fun q hq e=>by
    have:isS pl p.i=true:=List.any_eq_true.2 ⟨q,hq,by simp [e]⟩
    rw [hnS] at this;cases this
  have hoth:∀ q∈pl,q.new=true→q.i=p.i→q=p:=fun q hq hqn e=>by
    rcases C.two q hq p hp with h|h
    · exact h
    · exact absurd e (h.2 hqn hn).1
  unfold wpOp
  simp only [ho]
  rw [if_pos (by simp [Region.wanted,hg])]
  left
  unfold Oper.wp
  rw [hrun]
  simp only [Oper.upon,hdd]
  refine ⟨fun k=>if k=p.i then w.heap.size else β k,?_⟩
  have hba:Below w.heap.size w (w.alloc (.cells z ty')):=(Below.refl _ _).alloc (Nat.le_refl _) _
  refine ⟨by simp [J.ssz],J.shut hr,by rw [put_size,J.size],by rw [put_defers,J.defers],?_,?_,J.os,J.tape,J.output,Nat.le_trans J.big hba.size,?_,?_,?_,?_,?_⟩
  · intro t htn hw
    rw [put_at (fun e=>htn p hp hn (Option.some.inj e))]
    exact J.same t htn fun i oi hi hdi=>(set_seen (hw i oi hi hdi)).resolve_left fun e2=>by
      subst e2;rw [ho] at hi;cases hi;rw [hdd] at hdi;exact htn p hp hn (Option.some.inj hdi)
  · intro t hw
    have hj:p.d≠t:=fun e=>by
      have:=hw p.i o ho (by rw [hdd,e])
      have hlt:p.i<seen.size:=by rw [J.ssz];exact (Array.getElem?_eq_some_iff.1 ho).1
      simp [hlt] at this
    rw [put_at (fun e=>hj (Option.some.inj e))]
    exact J.init t fun i oi hi hd=>set_unseen (hw i oi hi hd)
  · intro k hk hq
    rw [hba.block k (Nat.lt_of_lt_of_le hk J.big)]
    exact J.keep k hk fun q hq' hqn hb'=>set_unseen (hq q hq' hqn hb')
  · intro q hq hqn hs
    by_cases e:q.i=p.i
    · obtain rfl:=hoth q hq hqn e
      simp only [if_true]
      refine ⟨J.big,by simp,?_,there_fresh _ _ _ hz⟩
      simp [Act.put,J.size,hd]
    · have hs:=(set_seen hs).resolve_left (fun h=>e h.symm)
      obtain ⟨h1,h2,h3,h4⟩:=J.laid q hq hqn hs
      simp only [if_neg e]
      refine ⟨h1,Nat.lt_of_lt_of_le h2 hba.size,?_,World.there_alloc h4 _⟩
      rw [put_at fun hc=>?_]
      · exact h3
      · rcases C.two q hq p hp with h|h
        · exact e (by rw [h])
        · exact (h.2 hqn hn).2 (Option.some.inj hc).symm
  · intro q hq hqn
    exact World.there_alloc (J.old q hq hqn) _
  · intro q hq r hr' hqn hrn h1 h2
    by_cases e1:q.i=p.i<;>by_cases e2:r.i=p.i
    · intro _;rw [e1,e2]
    · simp only [e1,if_true,if_neg e2]
      intro h
      have:=(J.laid r hr' hrn ((set_seen h2).resolve_left (fun h=>e2 h.symm))).2.1
      omega
    · simp only [e2,if_true,if_neg e1]
      intro h
      have:=(J.laid q hq hqn ((set_seen h1).resolve_left (fun h=>e1 h.symm))).2.1
      omega
    · simp only [if_neg e1,if_neg e2]
      exact J.apart q hq r hr' hqn hrn ((set_seen h1).resolve_left (fun h=>e1 h.symm)) ((set_seen h2).resolve_left (fun h=>e2 h.symm))
  · intro q hq hs
    have hs':=(set_seen hs).resolve_left (nS q hq).symm
    clear hs
    have hb:q.blk (fun k=>if k=p.i then w.heap.size else β k)=q.blk β:=by
      unfold Pl.blk
      cases hqn:q.new with
      | false=>simp
      | true =>
        have hne:q.i≠p.i:=fun e=>by
          obtain rfl:=hoth q hq hqn e
          have:=waits_seen J.closed hws hs'
          rw [getD_both hun] at this;cases this
        simp [hne]
    rw [hb]
    exact World.rangeAt_alloc (J.held q hq hs') _
structure StOk (P:Program) (fin:Act) (p:Pl):Prop where
  val:∃ v:Value,fin.tmps[p.x]?=some v∧v.cells.toList=p.scs
  size:(P.info? p.ty).map (·.size)=some p.scs.length
  one:∀ v∈p.scs,v.oneCell'=true
  lo:p.o≤p.so
  hi:p.so+p.scs.length≤p.o+p.cs.length
  at0:p.new=true→p.so=0
  eff:∀ (w:World) (b:Nat),(p.new=false→w.rangeAt b p.o p.pre)→w.there b p.o p.cs.length→(w.setCells b p.so p.scs).rangeAt b p.o p.cs
theorem FlowJ.stepS {Q:Exit→Act→World→Prop} (C:FlowC ops pl L) (J:FlowJ ops pl fin ini W β seen a w) {p:Pl} (hp:p∈pl) (hr:p.s∈Region.ready .any ops seen)
    (hold:∀ q∈pl,q.new=false→q.b<W.heap.size∧fin.tmps[q.d]?=some (.pointer (some ⟨q.b,q.so,none⟩)))
    (hdb:∀ q∈pl,∀ r∈pl,q.new=false→r.new=false→q.b=r.b→q=r)
    (hpre:p.new=false→W.rangeAt p.b p.o p.pre)
    (hSt:StOk P fin p) :
    wpOp P ops Q p.s (fun a' w'=>FlowJ ops pl fin ini W β (seen.setIfInBounds p.s true) a' w') a w:=by
  obtain ⟨o,ho,hg,hdn,hop,hxt,hxL,hdL⟩:=C.store p hp
  obtain ⟨⟨v,hx,hvs⟩,hi,hk,hlo,hhi,hat0,heff⟩:=hSt
  have hun:=(mem_ready.1 hr).1
  have hlt:p.s<seen.size:=by rw [J.ssz];exact (Array.getElem?_eq_some_iff.1 ho).1
  have hlook:∀ x,Operand.tmp x∈o.op.operands→x∈o.looksAt ops:=fun x hx=>List.mem_append_left _ (List.mem_filterMap.2 ⟨.tmp x,by simpa using hx,rfl⟩)
  have hax:a.tmps[p.x]?=some v:=by
    rw [J.sees C hr ho (hlook p.x (by simp [hop,Op.operands])) hxL hxt];exact hx
  have hap:a.tmps[p.d]?=some (.pointer (some ⟨p.blk β,p.so,none⟩))∧w.there (p.blk β) p.o p.cs.length∧(p.new=true→W.heap.size≤p.blk β):=by
    cases hpn:p.new with
    | true =>
      obtain ⟨_,_,_,_,_,hws,ho0,_⟩:=C.lay p hp hpn
      obtain ⟨h1,_,h3,h4⟩:=J.laid p hp hpn (waits_ready hws hr)
      simp only [Pl.blk,hpn,if_true,ho0,hat0 hpn]
      exact ⟨h3,h4,fun _=>h1⟩
    | false =>
      simp only [Pl.blk,hpn,Bool.false_eq_true,if_false]
      refine ⟨?_,J.old p hp hpn,fun h=>by cases h⟩
      rw [J.sees C hr ho (hlook p.d (by simp [hop,Op.operands])) hdL (C.oldd p hp hpn)]
      exact (hold p hp hpn).2
  obtain ⟨h1,h2,h3⟩:=hap
  unfold wpOp
  simp only [ho]
  rw [if_pos (by simp [Region.wanted,hg])]
  left
  have hvl:v.cells.size=p.scs.length:=by rw [←hvs,Array.length_toList]
  have hpw:p.new=false→w.rangeAt (p.blk β) p.o p.pre:=fun hpn=>by
    have hk2:=J.keep p.b (hold p hp hpn).1 fun q hq hqn hb'=>by
      have:=hdb q hq p hp hqn hpn hb'
      rw [this];exact getD_both hun
    have hr:=hpre hpn
    simp only [Pl.blk,hpn,Bool.false_eq_true,if_false]
    intro j v hj
    rw [World.cell?_of_block (w:=W) hk2];exact hr j v hj
  refine wp_store_v p.ty _ _ hop (p.blk β) p.so v (by simp [Act.eval,h1]) (by simp [Act.eval,hax]) (fun j hj=>by
    have:=h2 (p.so - p.o+j) (by omega)
    rwa [show p.o+(p.so - p.o+j)=p.so+j by omega] at this) (by rw [hvl];exact hi) (Array.all_eq_true_iff_forall_mem.2 fun x hx=>hk x (by rw [←hvs];simpa using hx)) ?_
  rw [hvs]
  have hput:a.put o.dst undef=a:=by rw [hdn];rfl
  rw [hput]
  have hso:=sets_os (p.blk β) p.scs p.so w
  have hsz:(w.setCells (p.blk β) p.so p.scs).heap.size=w.heap.size:=size_sets ..
  have hseen:(seen.setIfInBounds p.s true).getD p.s false=true:=by simp [hlt]
  have nI:∀ q∈pl,q.new=true→q.i≠p.s:=fun q hq hqn e=>by
    obtain ⟨_,_,_,_,_,_,_,hs⟩:=C.lay q hq hqn
    have:isS pl q.i=true:=List.any_eq_true.2 ⟨p,hp,by simp [e]⟩
    rw [hs] at this;cases this
  refine ⟨by simp [J.ssz],J.shut hr,J.size,J.defers,?_,fun t hw=>J.init t fun i oi hi hd=>set_unseen (hw i oi hi hd),hso.1.trans J.os,hso.2.1.trans J.tape,hso.2.2.trans J.output,by rw [hsz];exact J.big,?_,?_,?_,?_,?_⟩
  · intro x hxn hw
    exact J.same x hxn fun i oi hi' hdi=>(set_seen (hw i oi hi' hdi)).resolve_left fun e2=>by
      subst e2;rw [ho] at hi';cases hi';rw [hdn] at hdi;cases hdi
  · intro k hkW hq
    rw [heap_sets k (p.blk β) ?_]
    · exact J.keep k hkW fun q hq' hqn hb'=>set_unseen (hq q hq' hqn hb')
    · intro e
      cases hpn:p.new with
      | true=>have:=h3 hpn;omega
      | false =>
        have:=hq p hp hpn (by rw [e];simp [Pl.blk,hpn])
        rw [hseen] at this;cases this
  · intro q hq hqn hs
    have hs:=(set_seen hs).resolve_left (nI q hq hqn).symm
    obtain ⟨g1,g2,g3,g4⟩:=J.laid q hq hqn hs
    exact ⟨g1,by rw [hsz];exact g2,g3,World.there_setCells g4 _ _ _⟩
  · intro q hq hqn
    exact World.there_setCells (J.old q hq hqn) _ _ _
  · intro q hq r hr' hqn hrn g1 g2
    exact J.apart q hq r hr' hqn hrn ((set_seen g1).resolve_left (nI q hq hqn).symm) ((set_seen g2).resolve_left (nI r hr' hrn).symm)
  · intro q hq hs
    rcases C.two q hq p hp with rfl|hne
    · exact heff w _ hpw h2
    · have hs:=(set_seen hs).resolve_left (fun h=>hne.1 h.symm)
      refine ranges_sets (J.held q hq hs) _ _ _ ?_
      intro e
      cases hpn:p.new with
      | true =>
        obtain ⟨_,_,_,_,_,hws,_,_⟩:=C.lay p hp hpn
        have hpi:=waits_ready hws hr
        cases hqn:q.new with
        | true =>
          obtain ⟨_,_,_,_,_,hqs,_,_⟩:=C.lay q hq hqn
          have hqi:=waits_seen J.closed hqs hs
          simp only [Pl.blk,hpn,hqn,if_true] at e
          exact (hne.2 hqn hpn).1 (J.apart p hp q hq hpn hqn hpi hqi e).symm
        | false =>
          have h5:=h3 hpn
          have h6:=(hold q hq hqn).1
          rw [e] at h5
          simp only [Pl.blk,hqn,Bool.false_eq_true,if_false] at h5
          omega
      | false =>
        cases hqn:q.new with
        | true =>
          obtain ⟨_,_,_,_,_,hqs,_,_⟩:=C.lay q hq hqn
          have h5:=(J.laid q hq hqn (waits_seen J.closed hqs hs)).1
          have h6:=(hold p hp hpn).1
          simp only [Pl.blk,hpn,hqn,if_true,Bool.false_eq_true,if_false] at e
          omega
        | false =>
          simp only [Pl.blk,hpn,hqn,Bool.false_eq_true,if_false] at e
          have:=hdb p hp q hq hpn hqn e
          exact hne.1 (by rw [this])
def cnt (seen:Array Bool):Nat:=seen.toList.countP (·==false)
theorem cnt_set {j:Nat} (h:seen.getD j true=false):cnt seen=cnt (seen.setIfInBounds j true)+1:=by
  have hj:j<seen.size:=by
    rcases Nat.lt_or_ge j seen.size with h'|h'
    · exact h'
    · simp [Array.getElem?_eq_none h'] at h
  have hv:seen.toList[j]'(by simpa using hj)=false:=by simpa [hj] using h
  have hpos:0<seen.toList.countP (·==false):=List.countP_pos_iff.2 ⟨false,by rw [←hv];exact List.getElem_mem _,rfl⟩
  unfold cnt
  rw [Array.toList_setIfInBounds,List.countP_set (by simpa using hj)]
  rw [hv]
  have e1:(if (false==false)=true then 1 else 0)=1:=rfl
  have e2:(if (true==false)=true then 1 else 0)=0:=rfl
  rw [e1,e2]
  omega
theorem ready_all (C:FlowC ops pl L) (hs:seen.size=ops.size) (h:Region.ready .any ops seen=[]):∀ j,j<ops.size→seen.getD j false=true:=by
  intro j
  induction j using Nat.strongRecOn with
  | _ j ih =>
    intro hj
    cases hc:seen.getD j false with
    | true=>rfl
    | false =>
      exfalso
      have hun:=getD_in (by omega) hc
      have:j∈Region.ready .any ops seen:=mem_ready.2 ⟨hun,ops[j],Array.getElem?_eq_getElem hj,fun e he hb=>by
        have hl:=C.less j _ (Array.getElem?_eq_getElem hj) e he hb
        exact ih e.on hl (by omega)⟩
      rw [h] at this
      cases this
theorem none_ready (h:cnt seen=0):Region.ready .any ops seen=[]:=by
  apply List.eq_nil_iff_forall_not_mem.2
  intro j hj
  have:=cnt_set (mem_ready.1 hj).1
  omega
structure FlowE (pl:List Pl) (W:World) (β:Nat→Nat) (w:World):Prop where
  os:w.os=W.os
  tape:w.tape=W.tape
  output:w.output=W.output
  big:W.heap.size≤w.heap.size
  keep:∀ k,k<W.heap.size→(∀ p∈pl,p.new=false→p.b≠k)→w.heap[k]?=W.heap[k]?
  laid:∀ p∈pl,p.new=true→W.heap.size≤β p.i∧β p.i<w.heap.size∧w.there (β p.i) 0 p.cs.length∧w.rangeAt (β p.i) 0 p.cs
  old:∀ p∈pl,p.new=false→w.there p.b p.o p.cs.length∧w.rangeAt p.b p.o p.cs
  apart:∀ p∈pl,∀ q∈pl,p.new=true→q.new=true→β p.i=β q.i→p.i=q.i
def nP (β:Nat→Nat) (pl:List Pl) (fin:Act):Act:=pl.foldl (fun a p=>if p.new then a.put (some p.d) (.pointer (some ⟨β p.i,0,none⟩)) else a) fin
theorem newPuts_is:∀ (pl:List Pl) (a fin:Act),a.tmps.size=fin.tmps.size→a.defers=fin.defers→(∀ t,(∀ p∈pl,p.new=true→p.d≠t)→a.tmps[t]?=fin.tmps[t]?) →
    (∀ p∈pl,p.new=true→a.tmps[p.d]?=some (.pointer (some ⟨β p.i,0,none⟩)))→a=nP β pl fin
  | [],a,fin,h1,h2,h3,_=>by
    obtain ⟨t,d⟩:=a;obtain ⟨t',d'⟩:=fin
    simp only at h1 h2
    subst h2
    have:t=t':=Array.ext_getElem? fun i=>h3 i (fun p hp=>by cases hp)
    subst this;rfl
  | p::pl,a,fin,h1,h2,h3,h4=>by
    unfold nP
    rw [List.foldl_cons]
    cases hn:p.new with
    | false =>
      simp only [Bool.false_eq_true,if_false]
      exact newPuts_is pl a fin h1 h2 (fun t ht=>h3 t fun q hq hqn=>by
        rcases List.mem_cons.1 hq with e|hq
        · rw [e,hn] at hqn;cases hqn
        · exact ht q hq hqn) (fun q hq hqn=>h4 q (List.mem_cons_of_mem _ hq) hqn)
    | true =>
      simp only [if_true]
      refine newPuts_is pl a _ (by rw [put_size,h1]) (by rw [put_defers,h2]) (fun t ht=>?_) (fun q hq hqn=>h4 q (List.mem_cons_of_mem _ hq) hqn)
      have h5:=h4 p (List.mem_cons_self ..) hn
      by_cases e:p.d=t
      · subst e
        have hlt:p.d<fin.tmps.size:=by rw [←h1];exact (Array.getElem?_eq_some_iff.1 h5).1
        rw [h5];simp [Act.put,hlt]
      · rw [put_at (fun h=>e (Option.some.inj h))]
        exact h3 t fun q hq hqn=>by
          rcases List.mem_cons.1 hq with h|hq
          · rw [h];exact e
          · exact ht q hq hqn
structure FlowH (P:Program) (ops:Array Oper) (pl:List Pl) (L:List Tmp) (fin fin2 ini:Act) (W:World):Prop where
  f2:∀ t,t∉L→fin2.tmps[t]?=fin.tmps[t]?
  f2i:∀ t,t∈L→fin2.tmps[t]?=ini.tmps[t]?
  f2s:fin2.tmps.size=fin.tmps.size
  x:∀ j oj,ops[j]?=some oj→isA pl j=false→isS pl j=false→∀ W',FlowK pl W W'→(early ops pl j=true→Below W.heap.size W W')→wpQuiet P ops (fun w'=>∃ p:GB,w'=gw W' p.d p.os) (fun a'=>a'=frm ops L fin fin2 oj) [oj] (frm ops L fin fin2 oj)
  al:∀ p∈pl,p.new=true→p.d<fin.tmps.size∧∃ z,LaysAs P p.ty z∧p.cs.length≤z.size
  old:∀ q∈pl,q.new=false→q.b<W.heap.size∧fin.tmps[q.d]?=some (.pointer (some ⟨q.b,q.so,none⟩))∧W.there q.b q.o q.cs.length∧W.rangeAt q.b q.o q.pre
  db:∀ q∈pl,∀ r∈pl,q.new=false→r.new=false→q.b=r.b→q=r
  st:∀ p∈pl,StOk P fin p
theorem flow_any {Q:Exit→Act→World→Prop} (C:FlowC ops pl L) (H:FlowH P ops pl L fin fin2 ini W) (hQ:∀ β w,FlowE pl W β w→Q .normal (nP β pl fin) w) :
    ∀ (f:Nat) (seen:Array Bool) (a:Act) (w:World) (β:Nat→Nat),cnt seen=f→FlowJ ops pl fin ini W β seen a w→wpAny P .any ops Q f seen a w:=by
  have done:∀ (seen:Array Bool) (a:Act) (w:World) (β:Nat→Nat),FlowJ ops pl fin ini W β seen a w→Region.ready .any ops seen=[]→Q .normal a w:=by
    intro seen a w β J h0
    have hall:=ready_all C J.ssz h0
    have hs:∀ i o,ops[i]?=some o→seen.getD i false=true:=fun i o h=>hall i (Array.getElem?_eq_some_iff.1 h).1
    have hi:∀ p∈pl,p.new=true→seen.getD p.i false=true:=fun p hp hn=>by
      obtain ⟨o,ho,_⟩:=C.lay p hp hn;exact hs _ o ho
    have hst:∀ p∈pl,seen.getD p.s false=true:=fun p hp=>by
      obtain ⟨o,ho,_⟩:=C.store p hp;exact hs _ o ho
    rw [newPuts_is (β:=β) pl a fin J.size J.defers (fun t ht=>J.same t ht fun i o h _=>hs i o h) fun p hp hn=>(J.laid p hp hn (hi p hp hn)).2.2.1]
    refine hQ β w ⟨J.os,J.tape,J.output,J.big,fun k hk hp=>J.keep k hk fun p h1 h2 h3=>absurd h3 (hp p h1 h2),fun p hp hn=>?_,fun p hp hn=>?_,fun p hp q hq hpn hqn=>J.apart p hp q hq hpn hqn (hi p hp hpn) (hi q hq hqn)⟩
    · obtain ⟨h1,h2,_,h4⟩:=J.laid p hp hn (hi p hp hn)
      have:=J.held p hp (hst p hp)
      obtain ⟨_,_,_,_,_,_,ho0,_⟩:=C.lay p hp hn
      simp only [Pl.blk,hn,if_true,ho0] at this
      exact ⟨h1,h2,h4,this⟩
    · have:=J.held p hp (hst p hp)
      simp only [Pl.blk,hn,Bool.false_eq_true,if_false] at this
      exact ⟨J.old p hp hn,this⟩
  intro f
  induction f with
  | zero=>intro seen a w β hc J;exact ⟨none_ready hc,done seen a w β J (none_ready hc)⟩
  | succ f ih =>
    intro seen a w β hc J
    refine ⟨done seen a w β J,fun j hj=>?_⟩
    have hc':cnt (seen.setIfInBounds j true)=f:=by have:=cnt_set (mem_ready.1 hj).1;omega
    obtain ⟨hun,oj,hoj,_⟩:=mem_ready.1 hj
    cases hA:isA pl j with
    | true =>
      obtain ⟨p,hp,hb⟩:=List.any_eq_true.1 hA
      simp only [Bool.and_eq_true,beq_iff_eq] at hb
      obtain ⟨hn,rfl⟩:=hb
      exact wpOp_mono (fun a' w' ⟨β',J'⟩=>ih _ a' w' β' hc' J') (J.stepA C hp hn hj (H.al p hp hn).1 (H.al p hp hn).2)
    | false =>
      cases hS:isS pl j with
      | true =>
        obtain ⟨p,hp,hb⟩:=List.any_eq_true.1 hS
        obtain rfl:=beq_iff_eq.1 hb
        exact wpOp_mono (fun a' w' J'=>ih _ a' w' β hc' J') (J.stepS C hp hj (fun q hq hqn=>⟨(H.old q hq hqn).1,(H.old q hq hqn).2.1⟩) H.db (fun hpn=>(H.old p hp hpn).2.2.2) (H.st p hp))
      | false=>exact wpOp_mono (fun a' w' J'=>ih _ a' w' β hc' J') (J.stepX C hj hoj hA hS H.f2 H.f2i H.f2s (H.x j oj hoj hA hS))
theorem seen_none (n:Nat):cnt (Array.replicate n false)=n:=by
  unfold cnt;simp [List.countP_replicate]
theorem FlowJ.start (C:FlowC ops pl L) {vs:List (Tmp × Value)} (hfin:vs.foldl (fun a p=>a.put (some p.1) p.2) a=fin) (hd:∀ t∈vs.map (·.1),∃ (i:Nat) (o:Oper),ops[i]?=some o∧o.dst=some t)
    (hold:∀ q∈pl,q.new=false→W.there q.b q.o q.cs.length):FlowJ ops pl fin a W (fun _=>0) (Array.replicate ops.size false) a W:=by
  have h0:∀ i,(Array.replicate ops.size false).getD i false=false:=getD_replicate_false _
  have key:∀ (vs:List (Tmp × Value)) (a:Act),(vs.foldl (fun a p=>a.put (some p.1) p.2) a).tmps.size=a.tmps.size∧(vs.foldl (fun a p=>a.put (some p.1) p.2) a).defers=a.defers∧∀ t,t∉vs.map (·.1)→(vs.foldl (fun a p=>a.put (some p.1) p.2) a).tmps[t]?=a.tmps[t]?:=by
    intro vs
    induction vs with
    | nil=>intro a;exact ⟨rfl,rfl,fun _ _=>rfl⟩
    | cons p vs ih =>
      intro a
      obtain ⟨h1,h2,h3⟩:=ih (a.put (some p.1) p.2)
      rw [List.foldl_cons]
      refine ⟨by rw [h1,put_size],by rw [h2,put_defers],fun t ht=>?_⟩
      simp only [List.map_cons,List.mem_cons,not_or] at ht
      rw [h3 t ht.2,put_at fun e=>ht.1 (Option.some.inj e).symm]
  obtain ⟨k1,k2,k3⟩:=key vs a
  rw [hfin] at k1 k2 k3
  refine ⟨by simp,fun j oj _ h=>absurd h (by rw [h0];exact Bool.noConfusion),k1.symm,k2.symm,fun t _ ht=>?_,fun _ _=>rfl,rfl,rfl,rfl,Nat.le_refl _,fun _ _ _=>rfl,fun p _ _ h=>absurd h (by rw [h0];exact Bool.noConfusion),hold,fun p _ q _ _ _ h=>absurd h (by rw [h0];exact Bool.noConfusion),fun p _ h=>absurd h (by rw [h0];exact Bool.noConfusion)⟩
  refine (k3 t fun hc=>?_).symm
  obtain ⟨i,o,ho,hdo⟩:=hd t hc
  have:=ht i o ho hdo
  rw [h0] at this;cases this
def flowX (P:Program) (ops:Array Oper) (C:World→Prop) (fin:Act) (skip:Nat→Bool):Nat→List Oper→Prop
  | _,[]=>True
  | k,o::l=>(skip k=true∨wpQuiet P ops C (fun a'=>a'=fin) [o] fin)∧flowX P ops C fin skip (k+1) l
theorem fxn {C:World→Prop} {skip:Nat→Bool} {k:Nat}:flowX P ops C fin skip k []:=trivial
theorem fxs {C:World→Prop} {skip:Nat→Bool} {k:Nat} {o:Oper} {l:List Oper} (h:skip k=true) (h2:flowX P ops C fin skip (k+1) l):flowX P ops C fin skip k (o::l):=⟨.inl h,h2⟩
theorem fxo {C:World→Prop} {skip:Nat→Bool} {k:Nat} {o:Oper} {l:List Oper} (h:wpQuiet P ops C (fun a'=>a'=fin) [o] fin) (h2:flowX P ops C fin skip (k+1) l):flowX P ops C fin skip k (o::l):=⟨.inr h,h2⟩
theorem range_cons (k m:Nat):List.range' k (m+1)=k::List.range' (k+1) m:=rfl
theorem flow_seq {Q:Exit→Act→World→Prop} (C:FlowC ops pl L) (H:FlowH P ops pl L fin fin2 ini W) (hQ:∀ β w,FlowE pl W β w→Q .normal (nP β pl fin) w) :
    ∀ (m k:Nat) (seen:Array Bool) (a:Act) (w:World) (β:Nat→Nat),k+m=ops.size→(∀ i,i<ops.size→seen.getD i false=decide (i<k))→FlowJ ops pl fin ini W β seen a w→wpOps P ops Q (List.range' k m) a w:=by
  intro m
  induction m with
  | zero =>
    intro k seen a w β hk hseen J
    have hs:∀ i o,ops[i]?=some o→seen.getD i false=true:=fun i o h=>by
      have:=(Array.getElem?_eq_some_iff.1 h).1
      rw [hseen i this];simp;omega
    have hi:∀ p∈pl,p.new=true→seen.getD p.i false=true:=fun p hp hn=>by
      obtain ⟨o,ho,_⟩:=C.lay p hp hn;exact hs _ o ho
    have hst:∀ p∈pl,seen.getD p.s false=true:=fun p hp=>by
      obtain ⟨o,ho,_⟩:=C.store p hp;exact hs _ o ho
    show Q .normal a w
    rw [newPuts_is (β:=β) pl a fin J.size J.defers (fun t ht=>J.same t ht fun i o h _=>hs i o h) fun p hp hn=>(J.laid p hp hn (hi p hp hn)).2.2.1]
    refine hQ β w ⟨J.os,J.tape,J.output,J.big,fun k hk hp=>J.keep k hk fun p h1 h2 h3=>absurd h3 (hp p h1 h2),fun p hp hn=>?_,fun p hp hn=>?_,fun p hp q hq hpn hqn=>J.apart p hp q hq hpn hqn (hi p hp hpn) (hi q hq hqn)⟩
    · obtain ⟨h1,h2,_,h4⟩:=J.laid p hp hn (hi p hp hn)
      have:=J.held p hp (hst p hp)
      obtain ⟨_,_,_,_,_,_,ho0,_⟩:=C.lay p hp hn
      simp only [Pl.blk,hn,if_true,ho0] at this
      exact ⟨h1,h2,h4,this⟩
    · have:=J.held p hp (hst p hp)
      simp only [Pl.blk,hn,Bool.false_eq_true,if_false] at this
      exact ⟨J.old p hp hn,this⟩
  | succ m ih =>
    intro k seen a w β hk hseen J
    have hkl:k<ops.size:=by omega
    rw [range_cons,wpOps_cons]
    have hoj:ops[k]?=some ops[k]:=Array.getElem?_eq_getElem hkl
    have hun:seen.getD k true=false:=getD_in (by rw [J.ssz];exact hkl) (by rw [hseen k hkl];simp)
    have hj:k∈Region.ready .any ops seen:=mem_ready.2 ⟨hun,ops[k],hoj,fun e he hb=>by
      have hl:=C.less k _ hoj e he hb
      rw [hseen e.on (by omega)];simp [hl]⟩
    have hsn:∀ i,i<ops.size→(seen.setIfInBounds k true).getD i false=decide (i<k+1):=fun i hi=>by
      by_cases e:k=i
      · subst e;simp [J.ssz,hkl]
      · rw [getD_set_ne false e,hseen i hi]
        by_cases h:i<k
        · simp [h];omega
        · simp [h];omega
    cases hA:isA pl k with
    | true =>
      obtain ⟨p,hp,hb⟩:=List.any_eq_true.1 hA
      simp only [Bool.and_eq_true,beq_iff_eq] at hb
      obtain ⟨hn,rfl⟩:=hb
      exact wpOp_mono (fun a' w' ⟨β',J'⟩=>ih _ _ a' w' β' (by omega) hsn J') (J.stepA C hp hn hj (H.al p hp hn).1 (H.al p hp hn).2)
    | false =>
      cases hS:isS pl k with
      | true =>
        obtain ⟨p,hp,hb⟩:=List.any_eq_true.1 hS
        obtain rfl:=beq_iff_eq.1 hb
        exact wpOp_mono (fun a' w' J'=>ih _ _ a' w' β (by omega) hsn J') (J.stepS C hp hj (fun q hq hqn=>⟨(H.old q hq hqn).1,(H.old q hq hqn).2.1⟩) H.db (fun hpn=>(H.old p hp hpn).2.2.2) (H.st p hp))
      | false=>exact wpOp_mono (fun a' w' J'=>ih _ _ a' w' β (by omega) hsn J') (J.stepX C hj hoj hA hS H.f2 H.f2i H.f2s (H.x k _ hoj hA hS))
theorem back_put:∀ (vs2:List (Tmp × Value)) (f a:Act),f.tmps.size=a.tmps.size→(∀ p∈vs2,a.tmps[p.1]?=some p.2) →
    (vs2.foldl (fun a p=>a.put (some p.1) p.2) f).tmps.size=f.tmps.size∧(∀ t,t∉vs2.map (·.1)→(vs2.foldl (fun a p=>a.put (some p.1) p.2) f).tmps[t]?=f.tmps[t]?) ∧
      ∀ t,t∈vs2.map (·.1)→(vs2.foldl (fun a p=>a.put (some p.1) p.2) f).tmps[t]?=a.tmps[t]?
  | [],f,a,_,_=>⟨rfl,fun _ _=>rfl,fun t ht=>by simp at ht⟩
  | p::vs2,f,a,hs,h=>by
    obtain ⟨h1,h2,h3⟩:=back_put vs2 (f.put (some p.1) p.2) a (by rw [put_size,hs]) (fun q hq=>h q (List.mem_cons_of_mem _ hq))
    rw [List.foldl_cons]
    refine ⟨by rw [h1,put_size],fun t ht=>?_,fun t ht=>?_⟩
    · simp only [List.map_cons,List.mem_cons,not_or] at ht
      rw [h2 t ht.2,put_at fun e=>ht.1 (Option.some.inj e).symm]
    · by_cases hr:t∈vs2.map (·.1)
      · exact h3 t hr
      · have e:t=p.1:=by simp only [List.map_cons,List.mem_cons] at ht;exact ht.resolve_right hr
        rw [h2 t hr,e]
        have hp:=h p (List.mem_cons_self ..)
        have hlt:p.1<f.tmps.size:=by rw [hs];exact (Array.getElem?_eq_some_iff.1 hp).1
        rw [hp];simp [Act.put,hlt]
def flowXL (P:Program) (ops:Array Oper) (C:World→Prop) (L:List Tmp) (fin fin2:Act) (skip:Nat→Bool):Nat→List Oper→Prop
  | _,[]=>True
  | k,o::l=>(skip k=true∨wpQuiet P ops C (fun a'=>a'=frm ops L fin fin2 o) [o] (frm ops L fin fin2 o))∧flowXL P ops C L fin fin2 skip (k+1) l
theorem flowXL_at {C:World→Prop} {skip:Nat→Bool}:∀ (l:List Oper) (k:Nat),flowXL P ops C L fin fin2 skip k l→∀ j o,l[j]?=some o→skip (k+j)=false→wpQuiet P ops C (fun a'=>a'=frm ops L fin fin2 o) [o] (frm ops L fin fin2 o)
  | [],_,_,j,o,h,_=>by simp at h
  | x::l,k,h,j,o,hj,hs=>by
    cases j with
    | zero =>
      simp only [List.getElem?_cons_zero,Option.some.injEq] at hj
      subst hj
      exact h.1.resolve_left (by rw [Nat.add_zero] at hs;rw [hs];exact Bool.noConfusion)
    | succ j=>exact flowXL_at l (k+1) h.2 j o (by simpa using hj) (by rw [show k+1+j=k+(j+1) by omega];exact hs)
theorem wp_flowL {id:Nat} {dr:Bool} {Q:Exit→Act→World→Prop} {a:Act} {w:World} {l:List Oper} (pl:List Pl) (vs vs2:List (Tmp × Value)) (fin fin2:Act) (hfin:vs.foldl (fun a p=>a.put (some p.1) p.2) a=fin) (hfin2:vs2.foldl (fun a p=>a.put (some p.1) p.2) fin=fin2) (hini:∀ p∈vs2,a.tmps[p.1]?=some p.2)
    (hm:P.follows .mixedOrders=true) (hB:flowBL l.toArray pl (vs2.map (·.1)) (vs.map (·.1)) a.tmps.size=true)
    (hX:∀ W',Below w.heap.size w W'→flowXL P l.toArray (fun w'=>∃ p:GB,w'=gw W' p.d p.os) (vs2.map (·.1)) fin fin2 (fun k=>isA pl k || isS pl k || !early l.toArray pl k) 0 l)
    (hY:∀ W',FlowK pl w W'→flowXL P l.toArray (fun w'=>∃ p:GB,w'=gw W' p.d p.os) (vs2.map (·.1)) fin fin2 (fun k=>isA pl k || isS pl k || early l.toArray pl k) 0 l)
    (hAl:∀ p∈pl,p.new=true→∃ z,LaysAs P p.ty z∧p.cs.length≤z.size)
    (hOld:∀ q∈pl,q.new=false→q.b<w.heap.size∧fin.tmps[q.d]?=some (.pointer (some ⟨q.b,q.so,none⟩))∧w.there q.b q.o q.cs.length∧w.rangeAt q.b q.o q.pre)
    (hDb:∀ q∈pl,∀ r∈pl,q.new=false→r.new=false→q.b=r.b→q=r)
    (hSt:∀ p∈pl,StOk P fin p)
    (hQ:∀ β w',FlowE pl w β w'→Q .normal (nP β pl fin) w'):(Code.region id l.toArray dr).wp P Q a w:=by
  obtain ⟨C,hts,hpd⟩:=flowC hB
  have hd:∀ t∈vs.map (·.1),∃ (i:Nat) (o:Oper),l.toArray[i]?=some o∧o.dst=some t:=fun t ht=>by obtain ⟨_,i,o,ho,hd,_⟩:=hts t ht;exact ⟨i,o,ho,hd⟩
  have hX':∀ (W0:World),W0.os=w.os→W0.tape=w.tape→W0.output=w.output→W0.heap=w.heap→∀ j oj,l.toArray[j]?=some oj→isA pl j=false→isS pl j=false→∀ W',FlowK pl W0 W'→(early l.toArray pl j=true→Below W0.heap.size W0 W') →
      wpQuiet P l.toArray (fun w'=>∃ p:GB,w'=gw W' p.d p.os) (fun a'=>a'=frm l.toArray (vs2.map (·.1)) fin fin2 oj) [oj] (frm l.toArray (vs2.map (·.1)) fin fin2 oj):=by
    intro W0 e1 e2 e3 e4 j oj hoj hA hS W' hK hW'
    cases he:early l.toArray pl j with
    | true =>
      have h:=hW' he
      exact flowXL_at l 0 (hX W' ⟨h.os.trans e1,h.tape.trans e2,h.output.trans e3,by rw [←e4];exact h.size,fun k hk=>by rw [←e4];exact h.block k (by rw [e4];exact hk)⟩) j oj (by simpa using hoj) (by simp [hA,hS,he])
    | false =>
      exact flowXL_at l 0 (hY W' ⟨hK.os.trans e1,hK.tape.trans e2,hK.output.trans e3,by rw [←e4];exact hK.big,fun k hk hp=>by rw [←e4];exact hK.keep k (by rw [e4];exact hk) hp⟩) j oj (by simpa using hoj) (by simp [hA,hS,he])
  cases dr with
  | true =>
    have hO:∀ q∈pl,q.new=false→q.b<w.drew.heap.size∧fin.tmps[q.d]?=some (.pointer (some ⟨q.b,q.so,none⟩))∧w.drew.there q.b q.o q.cs.length∧w.drew.rangeAt q.b q.o q.pre:=fun q hq hn=>by
      obtain ⟨h1,h2,h3,h4⟩:=hOld q hq hn
      exact ⟨h1,h2,by simpa using h3,h4⟩
    have J:FlowJ l.toArray pl fin a w.drew (fun _=>0) (Array.replicate l.toArray.size false) a w.drew:=FlowJ.start C hfin hd fun q hq hn=>(hO q hq hn).2.2.1
    obtain ⟨b1,b2,b3⟩:=back_put vs2 fin a J.size.symm hini
    rw [hfin2] at b1 b2 b3
    refine wp_region_any hm (flow_any (P:=P) (fin2:=fin2) (ini:=a) C ⟨b2,b3,b1,hX' w.drew rfl rfl rfl rfl,?_,hO,hDb,hSt⟩ (fun β w' E=>hQ β w' ⟨E.os,E.tape,E.output,E.big,E.keep,E.laid,E.old,E.apart⟩) _ _ _ _ _ (seen_none _) J)
    intro p hp hn
    exact ⟨by rw [J.size.symm];exact hpd p hp hn,hAl p hp hn⟩
  | false =>
    have J:FlowJ l.toArray pl fin a w (fun _=>0) (Array.replicate l.toArray.size false) a w:=FlowJ.start C hfin hd fun q hq hn=>(hOld q hq hn).2.2.1
    obtain ⟨b1,b2,b3⟩:=back_put vs2 fin a J.size.symm hini
    rw [hfin2] at b1 b2 b3
    refine wp_region ?_
    rw [List.range_eq_range']
    refine flow_seq (P:=P) (W:=w) (fin2:=fin2) (ini:=a) C ⟨b2,b3,b1,hX' w rfl rfl rfl rfl,?_,hOld,hDb,hSt⟩ hQ _ _ _ _ _ _ (by omega) (fun i hi=>by rw [getD_replicate_false];simp) J
    intro p hp hn
    exact ⟨by rw [J.size.symm];exact hpd p hp hn,hAl p hp hn⟩
theorem flowXL_of {C:World→Prop} {skip:Nat→Bool}:∀ (l:List Oper) (k:Nat),flowX P ops C fin skip k l→flowXL P ops C [] fin fin skip k l
  | [],_,_=>trivial
  | o::l,k,h=>by
    refine ⟨h.1.imp id fun hq=>?_,flowXL_of l (k+1) h.2⟩
    unfold frm
    rw [ite_self]
    exact hq
theorem qwf {id:Nat} {dr:Bool} {Q:Exit→Act→World→Prop} {a:Act} {w:World} {l:List Oper} (pl:List Pl) (vs:List (Tmp × Value)) (fin:Act) (hfin:vs.foldl (fun a p=>a.put (some p.1) p.2) a=fin)
    (hm:P.follows .mixedOrders=true) (hB:flowB l.toArray pl (vs.map (·.1)) a.tmps.size=true)
    (hX:∀ W',Below w.heap.size w W'→flowX P l.toArray (fun w'=>∃ p:GB,w'=gw W' p.d p.os) fin (fun k=>isA pl k || isS pl k || !early l.toArray pl k) 0 l)
    (hY:∀ W',FlowK pl w W'→flowX P l.toArray (fun w'=>∃ p:GB,w'=gw W' p.d p.os) fin (fun k=>isA pl k || isS pl k || early l.toArray pl k) 0 l)
    (hAl:∀ p∈pl,p.new=true→∃ z,LaysAs P p.ty z∧p.cs.length≤z.size)
    (hOld:∀ q∈pl,q.new=false→q.b<w.heap.size∧fin.tmps[q.d]?=some (.pointer (some ⟨q.b,q.so,none⟩))∧w.there q.b q.o q.cs.length∧w.rangeAt q.b q.o q.pre)
    (hDb:∀ q∈pl,∀ r∈pl,q.new=false→r.new=false→q.b=r.b→q=r)
    (hSt:∀ p∈pl,StOk P fin p)
    (hQ:∀ β w',FlowE pl w β w'→Q .normal (nP β pl fin) w'):(Code.region id l.toArray dr).wp P Q a w :=
  wp_flowL pl vs [] fin fin hfin rfl (fun p hp=>by cases hp) hm hB (fun W' h=>flowXL_of l 0 (hX W' h)) (fun W' h=>flowXL_of l 0 (hY W' h)) hAl hOld hDb hSt hQ
end
theorem stw {P:Program} {fin:Act} {new:Bool} {i s b o:Nat} {d x:Tmp} {ty:TypeId} {cs:List Value} (h:fin.tmps[x]?=some (.agg cs.toArray)) (hs:(P.info? ty).map (·.size)=some cs.length) (h1:cs.toArray.all (·.oneCell')=true) (h0:new=true→o=0) :
    StOk P fin ⟨new,i,d,s,b,o,ty,x,cs,o,cs,[]⟩ :=
  ⟨⟨_,h,rfl⟩,hs,fun v hv=>(Array.all_eq_true_iff_forall_mem.1 h1) v (by simpa using hv),Nat.le_refl _,Nat.le_refl _,h0,fun w b _ ht=>World.rangeAt_setCells_same w b o cs ht⟩
end Go.Proofs.Ytnkmhbiklffjlaa
namespace Go.Proofs.Ytnkmhbiklffjlaa
open Go.RowKit Big
theorem Try.laysI:LaysAs Try.prog 51 zero33:=by
 intro o h b w
 unfold execOp
 simp only [h]
 rfl
theorem FlowE.below {pl:List Pl} {W w:World} {β:Nat→Nat} (E:FlowE pl W β w) (h:pl.all (·.new)=true):Below W.heap.size W w :=
 ⟨E.os,E.tape,E.output,E.big,fun k hk=>E.keep k hk fun p hp hn=>by have:=List.all_eq_true.1 h p hp;rw [hn] at this;cases this⟩
end Go.Proofs.Ytnkmhbiklffjlaa
namespace Go.Proofs.Ytnkmhbiklffjlaa
open Go.RowKit Big
structure At (w:World) (b o:Nat) (cs:List Value):Prop where
 range:w.rangeAt b o cs
 there:w.there b o cs.length
 lt:b<w.heap.size
theorem At.below {w w':World} {b o:Nat} {cs:List Value} (h:At w b o cs) (hb:Below w.heap.size w w'):At w' b o cs :=
 ⟨ranges_up h.range hb,there_up h.there hb h.lt,Nat.lt_of_lt_of_le h.lt hb.size⟩
theorem At.alloc {w:World} {b o:Nat} {cs:List Value} (h:At w b o cs) (ob:Obj):At (w.alloc ob) b o cs:=h.below ((Below.refl _ _).alloc (Nat.le_refl _) ob)
theorem At.fresh (w:World) (cs:List Value) (ty:TypeId) {b:Nat} (hb:b=w.heap.size):At (w.alloc (.cells cs.toArray ty)) b 0 cs:=by
 subst hb
 exact ⟨range_new w cs ty,there_fresh w cs.toArray ty (by simp),by simp⟩
theorem At.zero (w:World) (ty:TypeId) {b:Nat} (hb:b=w.heap.size):At (w.alloc (.cells zero33 ty)) b 0 (.bool false::lv 32 0):=by
 have:zero33=(Value.bool false::lv 32 0).toArray:=by rw [lv33_zero];rfl
 rw [this];exact At.fresh w _ ty hb
theorem At.sub {w:World} {b o:Nat} {xs ys zs:List Value} (h:At w b o (xs++(ys++zs))) {k:Nat} (hk:k=o+xs.length):At w b k ys:=by
 subst hk
 refine ⟨fun j v hj=>?_,fun j hj=>?_,h.lt⟩
 ·have hl:=(List.getElem?_eq_some_iff.1 hj).1
  have:=h.range (xs.length+j) v (by rw [List.getElem?_append_right (by omega),List.getElem?_append_left (by omega)];rw [←hj];congr 1;omega)
  rwa [←Nat.add_assoc] at this
 ·have:=h.there (xs.length+j) (by simp;omega)
  rwa [←Nat.add_assoc] at this
theorem At.head {w:World} {b o:Nat} {ys zs:List Value} (h:At w b o (ys++zs)):At w b o ys:=At.sub (xs:=[]) h (by simp)
theorem At.tail {w:World} {b o k:Nat} {xs ys:List Value} (h:At w b o (xs++ys)) (hk:k=o+xs.length):At w b k ys:=At.sub (zs:=[]) (by simpa using h) hk
theorem At.cell {w:World} {b o:Nat} {cs:List Value} (h:At w b o cs) {j:Nat} {v:Value} (hj:cs[j]?=some v):w.cell? ⟨b,o+j,none⟩=some v:=h.range j v hj
theorem At.flow {pl:List Pl} {w w':World} {β:Nat→Nat} (E:FlowE pl w β w') {b o:Nat} {cs:List Value} (h:At w b o cs) (hne:∀ p∈pl,p.new=false→p.b≠b):At w' b o cs:=by
 have hk:=E.keep b h.lt hne
 refine ⟨fun j v hj=>?_,fun j hj=>?_,Nat.lt_of_lt_of_le h.lt E.big⟩
 ·rw [World.cell?_of_block (w:=w) hk];exact h.range j v hj
 ·rw [World.cell?_of_block (w:=w) hk,World.frozen?_of_block (w:=w) hk];exact h.there j hj
theorem At.keep {pl:List Pl} {w w':World} (E:FlowK pl w w') {b o:Nat} {cs:List Value} (h:At w b o cs) (hne:∀ p∈pl,p.new=false→p.b≠b):At w' b o cs:=by
 have hk:=E.keep b h.lt hne
 refine ⟨fun j v hj=>?_,fun j hj=>?_,Nat.lt_of_lt_of_le h.lt E.big⟩
 ·rw [World.cell?_of_block (w:=w) hk];exact h.range j v hj
 ·rw [World.cell?_of_block (w:=w) hk,World.frozen?_of_block (w:=w) hk];exact h.there j hj
theorem FlowE.atNew {pl:List Pl} {w w':World} {β:Nat→Nat} (E:FlowE pl w β w') {p:Pl} (hp:p∈pl) (hn:p.new=true):w.heap.size≤β p.i∧At w' (β p.i) 0 p.cs:=by
 obtain ⟨h1,h2,h3,h4⟩:=E.laid p hp hn
 exact ⟨h1,h4,h3,h2⟩
theorem FlowE.atOld {pl:List Pl} {w w':World} {β:Nat→Nat} (E:FlowE pl w β w') {p:Pl} (hp:p∈pl) (hn:p.new=false) (hb:p.b<w.heap.size):At w' p.b p.o p.cs:=by
 obtain ⟨h3,h4⟩:=E.old p hp hn
 exact ⟨h4,h3,Nat.lt_of_lt_of_le hb E.big⟩
structure Fr (Z:Nat) (w w':World):Prop where
 below:Below Z w w'
 le:Z≤w'.heap.size
theorem Fr.step {Z:Nat} {w w1 w2:World} (h:Fr Z w w1) (hb:Below w1.heap.size w1 w2):Fr Z w w2:=⟨h.below.trans (hb.mono h.le),Nat.le_trans h.le hb.size⟩
theorem Fr.flow {Z:Nat} {w w1 w2:World} {pl:List Pl} {β:Nat→Nat} (h:Fr Z w w1) (E:FlowE pl w1 β w2) (hz:∀ p∈pl,p.new=false→Z≤p.b):Fr Z w w2 :=
 ⟨h.below.trans ⟨E.os,E.tape,E.output,E.big,fun k hk=>E.keep k (Nat.lt_of_lt_of_le hk h.le) fun p hp hn e=>by have:=hz p hp hn;omega⟩,Nat.le_trans h.le E.big⟩
theorem Fr.alloc {Z:Nat} {w w1:World} (h:Fr Z w w1) (ob:Obj):Fr Z w (w1.alloc ob):=h.step ((Below.refl _ _).alloc (Nat.le_refl _) ob)
theorem Fr.start (w:World):Fr w.heap.size w w:=⟨Below.refl _ _,Nat.le_refl _⟩
theorem wlg {P:Program} {ops:Array Oper} {w:World} {Q:Act→Prop} {a:Act} {op:Oper} {rest:List Oper} {ty:TypeId} {x:Operand} {b o:Nat} {cs:List Value} {d:TypeDesc} (hgd:Region.wanted op (yielded ops a.tmps)=true) (ho:op.op=.load ty x)
  (hx:a.eval x=.pointer (some ⟨b,o,none⟩)) (hA:At w b o cs) (hu:P.underlying ty=some d) (hd:d.isRow=true) (hi:(P.info? ty).map (·.size)=some cs.length)
  (h:wpQuiet P ops (fun w'=>∃ p:GB,w'=gw w p.d p.os) Q rest (a.put op.dst (.agg cs.toArray))) :
  wpQuiet P ops (fun w'=>∃ p:GB,w'=gw w p.d p.os) Q (op::rest) a :=
 wlq hgd ty x ho b o hx cs d hA.range hu hd hi h
theorem Try.laysM:LaysAs Try.prog 49 (lv 32 0).toArray:=by
 rw [lv_zero]
 intro o h b w
 unfold execOp
 simp only [h]
 rfl
theorem oP {f:Pl→Prop} (p:Pl) (l:List Pl) (h:f p) (h2:∀ x∈l,f x):∀ x∈p::l,f x:=fun x hx=>by
 rcases List.mem_cons.1 hx with e|hx
 ·rw [e];exact h
 ·exact h2 x hx
theorem oN {f:Pl→Prop}:∀ x∈([]:List Pl),f x:=fun x hx=>by cases hx
theorem uno {p:Pl}:∀ q∈[p],∀ r∈[p],q.new=false→r.new=false→q.b=r.b→q=r:=fun q hq r hr _ _ _=>by rw [List.mem_singleton.1 hq,List.mem_singleton.1 hr]
theorem sizeM {cs:List Value} {v:Nat} (h:cs=lv 32 v):(Try.prog.info? 49).map (·.size)=some cs.length:=by rw [h];exact infoMlv v
theorem qI {cs:List Value} {n:Bool} {v:Nat} (h:cs=.bool n::lv 32 v):(Try.prog.info? 51).map (·.size)=some cs.length:=by rw [h];exact infoI33 n v
theorem oneM {cs:List Value} {v:Nat} (h:cs=lv 32 v):cs.toArray.all (·.oneCell')=true:=by rw [h];exact all_oneCell_toArray (lv_one 32 v)
theorem oneI {cs:List Value} {n:Bool} {v:Nat} (h:cs=.bool n::lv 32 v):cs.toArray.all (·.oneCell')=true:=by rw [h];exact all_oneCell_toArray (int_one n v)
theorem Try.alI {cs:List Value} (h:(Try.prog.info? 51).map (·.size)=some cs.length):∃ z,LaysAs Try.prog 51 z∧cs.length≤z.size :=
 ⟨zero33,Try.laysI,by rw [Try.infoI] at h;injection h with h;rw [←h];decide⟩
theorem Try.alM {cs:List Value} (h:(Try.prog.info? 49).map (·.size)=some cs.length):∃ z,LaysAs Try.prog 49 z∧cs.length≤z.size :=
 ⟨_,Try.laysM,by rw [Try.infoM] at h;injection h with h;rw [←h,List.size_toArray,qlL];exact Nat.le_refl _⟩
theorem At.room {P:Program} {t:TypeId} {w:World} {b o:Nat} {cs ds:List Value} (h:At w b o cs) (h1:(P.info? t).map (·.size)=some cs.length) (h2:(P.info? t).map (·.size)=some ds.length):w.there b o ds.length∧w.rangeAt b o []:=by
 rw [h1] at h2;injection h2 with h2;rw [←h2];exact ⟨h.there,fun j v hv=>by simp at hv⟩
theorem FlowE.nn {pl:List Pl} (h:pl.all (·.new)=true):∀ p∈pl,p.new=false→False:=fun p hp hn=>by
 have:=List.all_eq_true.1 h p hp;rw [hn] at this;cases this
theorem At.fnw {pl:List Pl} {w w':World} {β:Nat→Nat} {b o:Nat} {cs:List Value} (h:At w b o cs) (E:FlowE pl w β w') (hn:pl.all (·.new)=true):At w' b o cs:=h.flow E fun p hp hp2=>(FlowE.nn hn p hp hp2).elim
theorem Fr.fnw {Z:Nat} {w w1 w2:World} {pl:List Pl} {β:Nat→Nat} (h:Fr Z w w1) (E:FlowE pl w1 β w2) (hn:pl.all (·.new)=true):Fr Z w w2:=h.flow E fun p hp hp2=>(FlowE.nn hn p hp hp2).elim
theorem wfn {P:Program} {id:Nat} {dr:Bool} {Q:Exit→Act→World→Prop} {a:Act} {w:World} {l:List Oper} (pl:List Pl) (vs:List (Tmp × Value)) (fin:Act) (hfin:vs.foldl (fun a p=>a.put (some p.1) p.2) a=fin)
  (hm:P.follows .mixedOrders=true) (hB:flowB l.toArray pl (vs.map (·.1)) a.tmps.size=true) (hn:pl.all (·.new)=true)
  (hX:∀ W',Below w.heap.size w W'→flowX P l.toArray (fun w'=>∃ p:GB,w'=gw W' p.d p.os) fin (fun k=>isA pl k || isS pl k) 0 l)
  (hAl:∀ p∈pl,∃ z,LaysAs P p.ty z∧p.cs.length≤z.size)
  (hSt:∀ p∈pl,StOk P fin p)
  (hQ:∀ β w',FlowE pl w β w'→Q .normal (nP β pl fin) w'):(Code.region id l.toArray dr).wp P Q a w:=by
 have nw:∀ p∈pl,p.new=true:=fun p hp=>List.all_eq_true.1 hn p hp
 have he:∀ k,early l.toArray pl k=true:=fun k=>List.all_eq_true.2 fun p hp=>by simp [nw p hp]
 have mono:∀ (C:World→Prop) (s t:Nat→Bool) (h:∀ k,s k=t k) (l':List Oper) (k:Nat),flowX P l.toArray C fin s k l'→flowX P l.toArray C fin t k l':=fun C s t h l' k hx=>by
  have:s=t:=funext h
  rwa [←this]
 have all:∀ (C:World→Prop) (s:Nat→Bool) (h:∀ k,s k=true) (l':List Oper) (k:Nat),flowX P l.toArray C fin s k l':=by
  intro C s h l'
  induction l' with
  | nil=>intro k;trivial
  | cons o l' ih=>intro k;exact ⟨.inl (h k),ih (k+1)⟩
 exact qwf pl vs fin hfin hm hB (fun W' hW'=>mono _ _ _ (fun k=>by simp [he k]) _ _ (hX W' hW')) (fun W' _=>all _ _ (fun k=>by simp [he k]) _ _) (fun p hp _=>hAl p hp) (fun q hq h=>(FlowE.nn hn q hq h).elim) (fun q hq r hr h _ _=>(FlowE.nn hn q hq h).elim) hSt hQ
theorem valI {c:List Value} {n:Bool} {v:Nat} (h:c=.bool n::lv 32 v):iV n v=.agg c.toArray:=by rw [h];rfl
theorem At.mag {w:World} {b o:Nat} {c:List Value} {n:Bool} {v:Nat} (h:At w b o c) (hc:c=.bool n::lv 32 v) {m:List Value} (hm:m=lv 32 v):At w b (o+1) m:=by
 subst hm hc;exact At.tail (xs:=[.bool n]) h rfl
theorem At.neg {w:World} {b o:Nat} {c:List Value} {n:Bool} {v:Nat} (h:At w b o c) (hc:c=.bool n::lv 32 v):w.cell? ⟨b,o,none⟩=some (.bool n):=by
 subst hc;exact h.cell (j:=0) rfl
theorem At.read {P:Program} {t:TypeId} {d:TypeDesc} {w:World} {b o:Nat} {c:List Value} (h:At w b o c) (hu:P.underlying t=some d) (hd:d.isRow=true) (hi:(P.info? t).map (·.size)=some c.length):(loadVar t ⟨b,o,none⟩).run P w=.ok (.agg c.toArray) w :=
 run_loadVar_mid w b o t c d h.range hu hd hi
end Go.Proofs.Ytnkmhbiklffjlaa
set_option maxHeartbeats 4000000
namespace Go.Proofs.Ytnkmhbiklffjlaa
open Go.RowKit Big
open Lib (hid)
theorem zero_op {c:List Value} {v:Nat} (h:c=lv 32 v) (hv:v<BB^32) {z:Bool} (hz:z=decide (v=0)) (W:World) :
  Calls Try.prog 52 #[.agg c.toArray] W fun e w'=>e=.returned (.bool z)∧Below W.heap.size W w':=by
 subst h;exact zero_is v z W hv hz
theorem divide_op {c d q r:List Value} {a b:Nat} (hc:c=lv 32 a) (hd:d=lv 32 b) (hq:q=lv 32 (a / b)) (hr:r=lv 32 (a%b)) (ha:a<BB^32) (hb:b<BB^32) (h0:b≠0) (W:World) :
  Calls Try.prog 53 #[.agg c.toArray,.agg d.toArray] W fun e w'=>e=.returned (.tuple #[.agg q.toArray,.agg r.toArray])∧Below W.heap.size W w':=by
 subst hc hd hq hr;exact divide_is a b W ha hb h0
theorem canon_op {c d:List Value} {neg n:Bool} {v:Nat} (hc:c=lv 32 v) (hd:d=.bool n::lv 32 v) (hn:n=cs1 neg v) (hv:v<BB^32) (W:World) :
  Calls Try.prog 47 #[.bool neg,.agg c.toArray] W fun e w'=>e=.returned (.agg d.toArray)∧Below W.heap.size W w':=by
 subst hc hd hn;exact canon_is neg v W hv
theorem gcd_lt {a b n:Nat} (ha:a<n) (hb:b<n):Nat.gcd a b<n:=by
 by_cases h:a=0
 ·subst h;rw [Nat.gcd_zero_left];exact hb
 ·exact Nat.lt_of_le_of_lt (Nat.gcd_le_left b (Nat.pos_of_ne_zero h)) ha
theorem gcd_is (na nb:Bool) (a b:Nat) (w:World) (ha:a<BB^32) (hb:b<BB^32) :
  Calls Try.prog 48 #[iV na a,iV nb b] w fun e w'=>e=.returned (iV false (Nat.gcd a b))∧Below w.heap.size w w':=by
 obtain ⟨G,hG⟩:∃ G,G=Nat.gcd a b:=⟨_,rfl⟩
 rw [←hG]
 have HGB:=hid (show G<BB^32 by rw [hG];exact gcd_lt ha hb)
 obtain ⟨ca,V_ca⟩:∃ c:List Value,Hid (c=.bool na::lv 32 a):=⟨_,hid rfl⟩
 obtain ⟨cb,V_cb⟩:∃ c:List Value,Hid (c=.bool nb::lv 32 b):=⟨_,hid rfl⟩
 obtain ⟨cg,V_cg⟩:∃ c:List Value,Hid (c=.bool false::lv 32 G):=⟨_,hid rfl⟩
 obtain ⟨cz,V_cz⟩:∃ c:List Value,Hid (c=.bool false::lv 32 0):=⟨_,hid rfl⟩
 obtain ⟨ma,V_ma⟩:∃ c:List Value,Hid (c=lv 32 a):=⟨_,hid rfl⟩
 obtain ⟨mb,V_mb⟩:∃ c:List Value,Hid (c=lv 32 b):=⟨_,hid rfl⟩
 rw [valI V_ca.out,valI V_cb.out,valI V_cg.out]
 have HA:=hid (And.intro ha (And.intro hb hG))
 clear ha hb hG
 obtain ⟨B0,hB0⟩:∃ B,B=w.heap.size:=⟨_,rfl⟩
 obtain ⟨B1,hB1⟩:∃ B,B=w.heap.size+1:=⟨_,rfl⟩
 obtain ⟨B2,hB2⟩:∃ B,B=w.heap.size+1+1:=⟨_,rfl⟩
 obtain ⟨w0,hw0⟩:∃ w0,w0=((w.alloc (.cells ca.toArray 51)).alloc (.cells cb.toArray 51)).alloc (.cells zero33 51):=⟨_,rfl⟩
 have AB0_1:=hid (show At w0 B0 1 ma by rw [hw0];exact (((At.fresh w ca _ hB0).alloc _).alloc _).mag V_ca.out V_ma.out)
 have AB1_1:=hid (show At w0 B1 1 mb by rw [hw0];exact ((At.fresh _ cb _ (by simp [hB1])).alloc _).mag V_cb.out V_mb.out)
 have AB2:=hid (show At w0 B2 0 cz by rw [hw0,V_cz.out];exact At.zero _ _ (by simp [hB2]))
 have FR:=hid (show Fr B0 w w0 by rw [hw0,hB0];exact (((Fr.start w).alloc _).alloc _).alloc _)
 have FR0:=hid FR.out.le
 have l01:B0<B1:=by omega
 have l12:B1<B2:=by omega
 have hZB2:B0≤B2:=by omega
 unfold zero33 at hw0
 go_enter Try.func48,Try.ntmps48
 go_upto_region 1 with fail
 rw [←hw0,←hB2,←hB1,←hB0]
 have HB0:=hid hB0
 clear hw0 hB1 hB2 hB0
 refine wfn [⟨true,4,5,6,0,0,49,10,ma,0,ma,[]⟩,⟨true,5,6,7,0,0,49,12,mb,0,mb,[]⟩] [(9,.pointer (some ⟨B0,1,none⟩)),(10,.agg ma.toArray),(11,.pointer (some ⟨B1,1,none⟩)),(12,.agg mb.toArray)] _ (by simp only [zz4,zz5,zq];rfl) (by kernel_rfl) (by kernel_rfl) rfl ?_ ?_ ?_ ?_
 ·intro W' hW'
  have rd0:=AB0_1.out.below hW'
  have rd1:=AB1_1.out.below hW'
  refine fxo ?_ ?_;(go_big_quiet_step (fail);(try simp only [zq]);exact wqn rfl)
  refine fxo (wlg (by rfl) rfl rfl rd0 Try.underlying49 rfl (sizeM V_ma.out) (wqn (by simp only [zq]))) ?_
  refine fxo ?_ ?_;(go_big_quiet_step (fail);(try simp only [zq]);exact wqn rfl)
  refine fxo (wlg (by rfl) rfl rfl rd1 Try.underlying49 rfl (sizeM V_mb.out) (wqn (by simp only [zq]))) ?_
  iterate 4 (refine fxs (by rfl) ?_)
  exact fxn
 ·exact oP _ _ (Try.alM (sizeM V_ma.out)) (oP _ _ (Try.alM (sizeM V_mb.out)) (oN))
 ·exact oP _ _ (stw rfl (sizeM V_ma.out) (oneM V_ma.out) (fun _=>rfl)) (oP _ _ (stw rfl (sizeM V_mb.out) (oneM V_mb.out) (fun _=>rfl)) (oN))
 intro β wx1 E
 replace FR:=hid (FR.out.fnw E rfl)
 obtain ⟨b5,hb5⟩:∃ b,b=β 4:=⟨_,rfl⟩
 have eb5:=E.atNew mms rfl
 simp only at eb5
 rw [←hb5] at eb5
 have lB0_b5:B0<b5:=by have h1:=eb5.1;have h2:=AB0_1.out.lt;omega
 have lB1_b5:B1<b5:=by have h1:=eb5.1;have h2:=AB1_1.out.lt;omega
 have lB2_b5:B2<b5:=by have h1:=eb5.1;have h2:=AB2.out.lt;omega
 have hZb5:B0≤b5:=by have h1:=eb5.1;have h2:=FR0.out;omega
 obtain ⟨b6,hb6⟩:∃ b,b=β 5:=⟨_,rfl⟩
 have eb6:=E.atNew (List.mem_cons_of_mem _ mms) rfl
 simp only at eb6
 rw [←hb6] at eb6
 have lB0_b6:B0<b6:=by have h1:=eb6.1;have h2:=AB0_1.out.lt;omega
 have lB1_b6:B1<b6:=by have h1:=eb6.1;have h2:=AB1_1.out.lt;omega
 have lB2_b6:B2<b6:=by have h1:=eb6.1;have h2:=AB2.out.lt;omega
 have hZb6:B0≤b6:=by have h1:=eb6.1;have h2:=FR0.out;omega
 have nb5_b6:b5≠b6:=fun e=>absurd (E.apart _ mms _ (List.mem_cons_of_mem _ mms) rfl rfl (by rw [hb5,hb6] at e;exact e)) (show ¬(4:Nat)=5 by decide)
 clear AB0_1
 clear AB1_1
 replace AB2:=hid (AB2.out.fnw E rfl)
 have Ab5:=hid eb5.2
 have Ab6:=hid eb6.2
 simp only [nP,zr,zq]
 rw [←hb5]
 rw [←hb6]
 replace FR0:=hid FR.out.le
 clear E eb5 hb5 eb6 hb6
 clear l01
 go_wp2
 go_loopg [] b (fun m wr=>∃ vm vn,At wr b5 0 (lv 32 vm)∧At wr b6 0 (lv 32 vn)∧At wr B2 0 cz∧Fr B0 w wr∧vm<BB^32∧vn<BB^32∧G=Nat.gcd vm vn∧vn≤m)
 case atStart=>exact ⟨a,b,by have:=Ab5.out;rwa [V_ma.out] at this,by have:=Ab6.out;rwa [V_mb.out] at this,AB2.out,FR.out,HA.out.1,HA.out.2.1,HA.out.2.2,Nat.le_refl _⟩
 case round =>
  obtain ⟨vm,vn,h5,h6,h2,hf,hm,hn,hg,hle⟩:=hrel
  obtain ⟨cm,V_cm⟩:∃ c:List Value,Hid (c=lv 32 vm):=⟨_,hid rfl⟩
  obtain ⟨cn,V_cn⟩:∃ c:List Value,Hid (c=lv 32 vn):=⟨_,hid rfl⟩
  replace Ab5:=hid (show At wr b5 0 cm by rw [V_cm.out];exact h5)
  replace Ab6:=hid (show At wr b6 0 cn by rw [V_cn.out];exact h6)
  replace AB2:=hid h2
  replace FR:=hid hf
  replace FR0:=hid FR.out.le
  have HV:=hid (And.intro hm (And.intro hn hg))
  clear h5 h6 h2 hf hm hn hg
  by_cases h0:vn=0
  ·have HE:=hid (show cm=lv 32 G by rw [HV.out.2.2,h0,Nat.gcd_zero_right];exact V_cm.out)
   have HZ:=hid (zero_op V_cn.out HV.out.2.1 (z:=true) (by simp [h0]))
   clear h0 hle
   go_upto_region 2 with fail
   refine wfn [] [(13,.agg cn.toArray),(14,.bool true),(15,.bool false)] _ (by simp only [zz4,zz5,zq];rfl) (by kernel_rfl) (by kernel_rfl) rfl ?_ ?_ ?_ ?_
   ·intro W' hW'
    have rd0:=Ab6.out.below hW'
    refine fxo (wlg (by rfl) rfl rfl rd0 Try.underlying49 rfl (sizeM V_cn.out) (wqn (by simp only [zq]))) ?_
    refine fxo ?_ ?_;(go_big_quiet_step ((go_at_call 52;exact Calls.below_of (HZ.out _)));(try simp only [zq]);exact wqn rfl)
    refine fxo ?_ ?_;(go_big_quiet_step (fail);(try simp only [zq]);exact wqn rfl)
    exact fxn
   ·exact oN
   ·exact oN
   intro β wx2 E
   replace FR:=hid (FR.out.fnw E rfl)
   replace AB2:=hid (AB2.out.fnw E rfl)
   replace Ab5:=hid (Ab5.out.fnw E rfl)
   replace Ab6:=hid (Ab6.out.fnw E rfl)
   have hE:=E.below rfl
   simp only [nP,zr,zq]
   replace FR0:=hid FR.out.le
   clear E
   go_upto_region 5 with fail
   refine qwf [⟨false,0,4,2,B2,0,51,25,cg,0,cg,[]⟩] [(24,.agg cm.toArray),(25,.agg cg.toArray)] _ (by simp only [zz4,zz5,zq];rfl) (by kernel_rfl) (by kernel_rfl) ?_ ?_ ?_ ?_ ?_ ?_ ?_
   ·intro W' hW'
    have rd0:=Ab5.out.below hW'
    refine fxo (wlg (by rfl) rfl rfl rd0 Try.underlying49 rfl (sizeM V_cm.out) (wqn (by simp only [zq]))) ?_
    refine fxo ?_ ?_;(go_big_quiet_step ((go_at_call 47;exact Calls.below_of (canon_op HE.out V_cg.out rfl HGB.out _)));(try simp only [zq]);exact wqn rfl)
    refine fxs (by rfl) ?_
    exact fxn
   ·intro W' hK'
    have rd0:=At.keep hK' Ab5.out (oP _ _ (fun _=>(by show B2≠b5;omega)) (oN))
    refine fxo (wlg (by rfl) rfl rfl rd0 Try.underlying49 rfl (sizeM V_cm.out) (wqn (by simp only [zq]))) ?_
    iterate 2 (refine fxs (by kernel_rfl) ?_)
    exact fxn
   ·exact oP _ _ (fun h=>Bool.noConfusion h) (oN)
   ·exact oP _ _ (fun _=>⟨AB2.out.lt,rfl,At.room AB2.out (qI V_cz.out) (qI V_cg.out)⟩) (oN)
   ·exact uno
   ·exact oP _ _ (stw rfl (qI V_cg.out) (oneI V_cg.out) (fun _=>rfl)) (oN)
   intro β wx3 E
   replace FR:=hid (FR.out.flow E (oP _ _ (fun _=>(by show B0≤B2;omega)) (oN)))
   replace AB2:=hid (show At wx3 B2 0 cg from E.atOld mms rfl AB2.out.lt)
   replace Ab5:=hid (At.flow E Ab5.out (oP _ _ (fun _=>(by show B2≠b5;omega)) (oN)))
   replace Ab6:=hid (At.flow E Ab6.out (oP _ _ (fun _=>(by show B2≠b6;omega)) (oN)))
   simp only [nP,zr,zq]
   replace FR0:=hid FR.out.le
   clear E
   go_wp2_with fail
   have hld:=AB2.out.read (P:=Try.prog) Try.underlying51 rfl (qI V_cg.out)
   refine bodyPost_ret (v:=.agg cg.toArray) (by simp [results,Try.results48,asAddr,hld]) rfl ?_
   exact ⟨rfl,by rw [HB0.out] at FR;exact FR.out.below⟩
  ·have HZ:=hid (zero_op V_cn.out HV.out.2.1 (z:=false) (by simp [h0]))
   have H0:=hid h0
   clear h0
   obtain ⟨cq,V_cq⟩:∃ c:List Value,Hid (c=lv 32 (vm / vn)):=⟨_,hid rfl⟩
   obtain ⟨cr,V_cr⟩:∃ c:List Value,Hid (c=lv 32 (vm%vn)):=⟨_,hid rfl⟩
   go_upto_region 2 with fail
   refine wfn [] [(13,.agg cn.toArray),(14,.bool false),(15,.bool true)] _ (by simp only [zz4,zz5,zq];rfl) (by kernel_rfl) (by kernel_rfl) rfl ?_ ?_ ?_ ?_
   ·intro W' hW'
    have rd0:=Ab6.out.below hW'
    refine fxo (wlg (by rfl) rfl rfl rd0 Try.underlying49 rfl (sizeM V_cn.out) (wqn (by simp only [zq]))) ?_
    refine fxo ?_ ?_;(go_big_quiet_step ((go_at_call 52;exact Calls.below_of (HZ.out _)));(try simp only [zq]);exact wqn rfl)
    refine fxo ?_ ?_;(go_big_quiet_step (fail);(try simp only [zq]);exact wqn rfl)
    exact fxn
   ·exact oN
   ·exact oN
   intro β wx2 E
   replace FR:=hid (FR.out.fnw E rfl)
   replace AB2:=hid (AB2.out.fnw E rfl)
   replace Ab5:=hid (Ab5.out.fnw E rfl)
   replace Ab6:=hid (Ab6.out.fnw E rfl)
   have hE:=E.below rfl
   simp only [nP,zr,zq]
   replace FR0:=hid FR.out.le
   clear E
   go_upto_region 3 with fail
   refine wfn [⟨true,6,7,8,0,0,49,20,cq,0,cq,[]⟩,⟨true,7,8,9,0,0,49,21,cr,0,cr,[]⟩] [(17,.agg cm.toArray),(18,.agg cn.toArray),(19,.tuple #[.agg cq.toArray,.agg cr.toArray]),(16,.tuple #[.agg cq.toArray,.agg cr.toArray]),(20,.agg cq.toArray),(21,.agg cr.toArray)] _ (by simp only [zz4,zz5,zq];rfl) (by kernel_rfl) (by kernel_rfl) rfl ?_ ?_ ?_ ?_
   ·intro W' hW'
    have rd0:=Ab5.out.below hW'
    have rd1:=Ab6.out.below hW'
    refine fxo (wlg (by rfl) rfl rfl rd0 Try.underlying49 rfl (sizeM V_cm.out) (wqn (by simp only [zq]))) ?_
    refine fxo (wlg (by rfl) rfl rfl rd1 Try.underlying49 rfl (sizeM V_cn.out) (wqn (by simp only [zq]))) ?_
    refine fxo ?_ ?_;(go_big_quiet_step ((go_at_call 53;exact Calls.below_of (divide_op V_cm.out V_cn.out V_cq.out V_cr.out HV.out.1 HV.out.2.1 H0.out _)));(try simp only [zq]);exact wqn rfl)
    iterate 3 (refine fxo ?_ ?_;(go_big_quiet_step (fail);(try simp only [zq]);exact wqn rfl))
    iterate 4 (refine fxs (by rfl) ?_)
    exact fxn
   ·exact oP _ _ (Try.alM (sizeM V_cq.out)) (oP _ _ (Try.alM (sizeM V_cr.out)) (oN))
   ·exact oP _ _ (stw rfl (sizeM V_cq.out) (oneM V_cq.out) (fun _=>rfl)) (oP _ _ (stw rfl (sizeM V_cr.out) (oneM V_cr.out) (fun _=>rfl)) (oN))
   intro β wx3 E
   replace FR:=hid (FR.out.fnw E rfl)
   obtain ⟨b7,hb7⟩:∃ b,b=β 6:=⟨_,rfl⟩
   have eb7:=E.atNew mms rfl
   simp only at eb7
   rw [←hb7] at eb7
   have lB2_b7:B2<b7:=by have h1:=eb7.1;have h2:=AB2.out.lt;omega
   have lb5_b7:b5<b7:=by have h1:=eb7.1;have h2:=Ab5.out.lt;omega
   have lb6_b7:b6<b7:=by have h1:=eb7.1;have h2:=Ab6.out.lt;omega
   have hZb7:B0≤b7:=by have h1:=eb7.1;have h2:=FR0.out;omega
   obtain ⟨b8,hb8⟩:∃ b,b=β 7:=⟨_,rfl⟩
   have eb8:=E.atNew (List.mem_cons_of_mem _ mms) rfl
   simp only at eb8
   rw [←hb8] at eb8
   have lB2_b8:B2<b8:=by have h1:=eb8.1;have h2:=AB2.out.lt;omega
   have lb5_b8:b5<b8:=by have h1:=eb8.1;have h2:=Ab5.out.lt;omega
   have lb6_b8:b6<b8:=by have h1:=eb8.1;have h2:=Ab6.out.lt;omega
   have hZb8:B0≤b8:=by have h1:=eb8.1;have h2:=FR0.out;omega
   have nb7_b8:b7≠b8:=fun e=>absurd (E.apart _ mms _ (List.mem_cons_of_mem _ mms) rfl rfl (by rw [hb7,hb8] at e;exact e)) (show ¬(6:Nat)=7 by decide)
   replace AB2:=hid (AB2.out.fnw E rfl)
   replace Ab5:=hid (Ab5.out.fnw E rfl)
   replace Ab6:=hid (Ab6.out.fnw E rfl)
   have Ab7:=hid eb7.2
   have Ab8:=hid eb8.2
   simp only [nP,zr,zq]
   rw [←hb7]
   rw [←hb8]
   replace FR0:=hid FR.out.le
   clear E eb7 hb7 eb8 hb8
   go_upto_region 4 with fail
   refine qwf [⟨false,0,5,2,b5,0,49,22,cn,0,cn,[]⟩,⟨false,0,6,3,b6,0,49,23,cr,0,cr,[]⟩] [(22,.agg cn.toArray),(23,.agg cr.toArray)] _ (by simp only [zz4,zz5,zq];rfl) (by kernel_rfl) (by kernel_rfl) ?_ ?_ ?_ ?_ ?_ ?_ ?_
   ·intro W' hW'
    have rd0:=Ab6.out.below hW'
    have rd1:=Ab8.out.below hW'
    refine fxo (wlg (by rfl) rfl rfl rd0 Try.underlying49 rfl (sizeM V_cn.out) (wqn (by simp only [zq]))) ?_
    refine fxo (wlg (by rfl) rfl rfl rd1 Try.underlying49 rfl (sizeM V_cr.out) (wqn (by simp only [zq]))) ?_
    iterate 2 (refine fxs (by rfl) ?_)
    exact fxn
   ·intro W' hK'
    have rd1:=At.keep hK' Ab8.out (oP _ _ (fun _=>(by show b5≠b8;omega)) (oP _ _ (fun _=>(by show b6≠b8;omega)) (oN)))
    refine fxs (by kernel_rfl) ?_
    refine fxo (wlg (by rfl) rfl rfl rd1 Try.underlying49 rfl (sizeM V_cr.out) (wqn (by simp only [zq]))) ?_
    iterate 2 (refine fxs (by kernel_rfl) ?_)
    exact fxn
   ·exact oP _ _ (fun h=>Bool.noConfusion h) (oP _ _ (fun h=>Bool.noConfusion h) (oN))
   ·exact oP _ _ (fun _=>⟨Ab5.out.lt,rfl,At.room Ab5.out (sizeM V_cm.out) (sizeM V_cn.out)⟩) (oP _ _ (fun _=>⟨Ab6.out.lt,rfl,At.room Ab6.out (sizeM V_cn.out) (sizeM V_cr.out)⟩) (oN))
   ·intro q hq r hr hqn hrn e
    simp only [List.mem_cons,List.not_mem_nil,or_false] at hq hr
    rcases hq with rfl|rfl<;>rcases hr with rfl|rfl<;>first|rfl|(exact Bool.noConfusion hqn)|(exact Bool.noConfusion hrn)|(exfalso;simp only at e;omega)
   ·exact oP _ _ (stw rfl (sizeM V_cn.out) (oneM V_cn.out) (fun _=>rfl)) (oP _ _ (stw rfl (sizeM V_cr.out) (oneM V_cr.out) (fun _=>rfl)) (oN))
   intro β wx4 E
   replace FR:=hid (FR.out.flow E (oP _ _ (fun _=>(by show B0≤b5;omega)) (oP _ _ (fun _=>(by show B0≤b6;omega)) (oN))))
   replace AB2:=hid (At.flow E AB2.out (oP _ _ (fun _=>(by show b5≠B2;omega)) (oP _ _ (fun _=>(by show b6≠B2;omega)) (oN))))
   replace Ab5:=hid (show At wx4 b5 0 cn from E.atOld mms rfl Ab5.out.lt)
   replace Ab6:=hid (show At wx4 b6 0 cr from E.atOld (List.mem_cons_of_mem _ mms) rfl Ab6.out.lt)
   replace Ab7:=hid (At.flow E Ab7.out (oP _ _ (fun _=>(by show b5≠b7;omega)) (oP _ _ (fun _=>(by show b6≠b7;omega)) (oN))))
   replace Ab8:=hid (At.flow E Ab8.out (oP _ _ (fun _=>(by show b5≠b8;omega)) (oP _ _ (fun _=>(by show b6≠b8;omega)) (oN))))
   simp only [nP,zr,zq]
   replace FR0:=hid FR.out.le
   clear E
   go_wp2_with fail
   go_roundg (gk - 1)
   case measure=>have:=H0.out;omega
   case rel =>
    have hlt:vm%vn<vn:=Nat.mod_lt _ (Nat.pos_of_ne_zero H0.out)
    exact ⟨vn,vm%vn,by have:=Ab5.out;rwa [V_cn.out] at this,by have:=Ab6.out;rwa [V_cr.out] at this,AB2.out,FR.out,HV.out.2.1,Nat.lt_trans hlt HV.out.2.1,by rw [HV.out.2.2,Nat.gcd_comm,Nat.gcd_rec vn vm,Nat.gcd_comm],by omega⟩
end Go.Proofs.Ytnkmhbiklffjlaa
namespace Go.Proofs.Ytnkmhbiklffjlaa
open Go.RowKit Big
end Go.Proofs.Ytnkmhbiklffjlaa
