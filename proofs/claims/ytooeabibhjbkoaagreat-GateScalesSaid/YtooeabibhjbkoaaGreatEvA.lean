import Derived.Test.YtooeabibhjbkoaaGreatBiX
set_option linter.unusedVariables false
set_option linter.unusedSimpArgs false
namespace Go.Proofs.YtooeabibhjbkoaaGreat
open Go.RowKit
structure EvJ (ops:Array Oper) (fin:Act) (Gr:World→World→Prop) (W:World) (seen:Array Bool) (a:Act) (w:World):Prop where
 ssz:seen.size=ops.size
 closed:∀ j oj,ops[j]?=some oj→seen.getD j false=true→∀ e∈oj.after,Region.binds .any e=true→seen.getD e.on false=true
 size:a.tmps.size=fin.tmps.size
 defers:a.defers=fin.defers
 same:∀ t,(∀ (i:Nat) (o:Oper),ops[i]?=some o→o.dst=some t→seen.getD i false=true)→a.tmps[t]?=fin.tmps[t]?
 gr:Gr W w
structure EvH (P:Program) (ops:Array Oper) (G:List Nat) (R:Nat→Value→World→Prop) (F:(Nat→Value)→Act) (Gr:World→World→Prop) (ini:Act) (W:World):Prop where
 tr:∀ a b c,Gr a b→Gr b c→Gr a c
 be:∀ a b,Below a.heap.size a b→Gr W a→Gr a b
 up:∀ g v w w',R g v w→Gr W w→Gr w w'→R g v w'
 x:∀ γ j oj,ops[j]?=some oj→j∉G→∀ W',Gr W W'→(∀ g∈G,waitsIn ops 8 j g=true→R g (γ g) W')→wpQuiet P ops (fun w'=>∃ p:GB,w'=gw W' p.d p.os) (fun a'=>a'=F γ) [oj] (F γ)
 g:∀ γ,∀ j∈G,∀ oj,ops[j]?=some oj→∀ W',Gr W W'→(∀ g∈G,waitsIn ops 8 j g=true→R g (γ g) W')→Region.wanted oj (yielded ops (F γ).tmps)=true∧GY P (F γ) oj W' (fun v w''=>Gr W' w''∧R j v w'')
 put:∀ γ,∀ j∈G,∀ oj,ops[j]?=some oj→(F γ).put oj.dst (γ j)=F γ
 dep:∀ γ γ' t,(∀ (j:Nat) (o:Oper),ops[j]?=some o→o.dst=some t→∀ g∈G,(g=j∨waitsIn ops 8 j g=true)→γ g=γ' g)→(F γ).tmps[t]?=(F γ').tmps[t]?
 size:∀ γ,(F γ).tmps.size=ini.tmps.size∧(F γ).defers=ini.defers
section
variable {P:Program} {ops:Array Oper} {fin ini:Act} {W:World} {Gr:World→World→Prop} {seen:Array Bool} {a:Act} {w:World} {G:List Nat} {R:Nat→Value→World→Prop} {F:(Nat→Value)→Act}
theorem EvJ.shut (J:EvJ ops fin Gr W seen a w) {j:Nat} (hr:j∈Region.ready .any ops seen) :
  ∀ k ok,ops[k]?=some ok→(seen.setIfInBounds j true).getD k false=true→∀ e∈ok.after,Region.binds .any e=true→(seen.setIfInBounds j true).getD e.on false=true:=by
 obtain ⟨_,oj,hoj,hall⟩:=mem_ready.1 hr
 intro k ok hk hs e he hb
 rcases qaO hs with rfl|hs
 ·obtain rfl:=Option.some.inj (hk.symm.trans hoj)
  exact getD_set_true (hall e he hb)
 ·exact getD_set_true (J.closed k ok hk hs e he hb)
theorem EvJ.sees (C:FlowC ops [] []) (J:EvJ ops fin Gr W seen a w) {j:Nat} {oj:Oper} (hr:j∈Region.ready .any ops seen) (hoj:ops[j]?=some oj) {t:Tmp} (ht:t∈oj.looksAt ops):a.tmps[t]?=fin.tmps[t]? :=
 J.same t fun i o hi hd=>qdT (C.looks j oj hoj t ht (by simp) i o hi hd) hr
theorem EvJ.move (J:EvJ ops fin Gr W seen a w) {j:Nat} {oj:Oper} (hr:j∈Region.ready .any ops seen) (hoj:ops[j]?=some oj)
  {v:Value} (hv:fin.put oj.dst v=fin) {w':World} (hg:Gr W w'):EvJ ops fin Gr W (seen.setIfInBounds j true) (a.put oj.dst v) w':=by
 refine ⟨by simp [J.ssz],J.shut hr,by rw [qcC,J.size],by rw [qcQ,J.defers],?_,hg⟩
 intro t hw
 by_cases e:oj.dst=some t
 ·rw [e] at hv ⊢
  have h1:fin.tmps[t]?=(fin.put (some t) v).tmps[t]?:=by rw [hv]
  rw [h1]
  simp only [Act.put,Array.getElem?_setIfInBounds,J.size,if_true]
 ·rw [qdJ e]
  exact J.same t fun i o hi hd=>(qaO (hw i o hi hd)).resolve_left fun e2=>by subst e2;rw [hoj] at hi;cases hi;exact e hd
theorem EvJ.skip (J:EvJ ops fin Gr W seen a w) {j:Nat} {oj:Oper} (hr:j∈Region.ready .any ops seen) (hoj:ops[j]?=some oj)
  (hv:fin.put oj.dst undef=fin):EvJ ops fin Gr W (seen.setIfInBounds j true) (a.put oj.dst undef) w:=J.move hr hoj hv J.gr
theorem EvJ.stepX {Q:Exit→Act→World→Prop} (C:FlowC ops [] []) (J:EvJ ops fin Gr W seen a w) {j:Nat} {oj:Oper} (hr:j∈Region.ready .any ops seen) (hoj:ops[j]?=some oj)
  (hbe:∀ b,Below w.heap.size w b→Gr W b)
  (h:wpQuiet P ops (fun w'=>∃ p:GB,w'=gw w p.d p.os) (fun a'=>a'=fin) [oj] fin) :
  wpOp P ops Q j (fun a' w'=>EvJ ops fin Gr W (seen.setIfInBounds j true) a' w'∧Below w.heap.size w w') a w:=by
 have hlk:∀ t∈oj.looksAt ops,a.tmps[t]?=fin.tmps[t]?:=fun t ht=>J.sees C hr hoj ht
 have hex:=qfY (a:=a) (b:=fin) (C.sel j oj · · hoj) hlk
 have hwa:=qdS (a:=a) (b:=fin) hlk
 simp only [wpQuiet] at h
 unfold wpOp
 simp only [hoj]
 rw [hwa]
 split
 ·rename_i hw
  simp only [hw,if_true] at h
  obtain ⟨v,h1,h2⟩:=h
  left
  refine Oper.wp_of_quiet (C:=fun w'=>∃ p:GB,w'=gw w p.d p.os) (K:=fun a'=>a'=a.put oj.dst v) (qcA (Below.refl _ _)) ?_ ⟨v,fun w' hw'=>?_,rfl⟩
  ·rintro a' w' ⟨p,rfl⟩ rfl
   exact ⟨J.move hr hoj h2 (hbe _ (qbG w p.d p.os)),qbG w p.d p.os⟩
  ·have:=h1 w' hw'
   unfold Oper.quietAt at *
   rw [hex]
   exact this
 ·rename_i hw
  simp only [hw] at h
  exact ⟨J.move hr hoj h J.gr,Below.refl _ _⟩
theorem EvJ.stepG {Q:Exit→Act→World→Prop} (C:FlowC ops [] []) (J:EvJ ops fin Gr W seen a w) {j:Nat} {oj:Oper} (hr:j∈Region.ready .any ops seen) (hoj:ops[j]?=some oj)
  {F:Value→Act} {D:Value→World→Prop} (hg:Region.wanted oj (yielded ops fin.tmps)=true) (hy:GY P fin oj w D) (hD:∀ v w'',D v w''→Gr W w'') (hF:∀ v,EvJ ops (F v) Gr W seen a w) (hput:∀ v,(F v).put oj.dst v=F v) :
  wpOp P ops Q j (fun a' w'=>∃ v,EvJ ops (F v) Gr W (seen.setIfInBounds j true) a' w'∧D v w') a w:=by
 have hlk:∀ t∈oj.looksAt ops,a.tmps[t]?=fin.tmps[t]?:=fun t ht=>J.sees C hr hoj ht
 have hex:=qfY (a:=a) (b:=fin) (C.sel j oj · · hoj) hlk
 have hwa:=qdS (a:=a) (b:=fin) hlk
 unfold wpOp
 simp only [hoj]
 rw [hwa,if_pos hg]
 left
 unfold GY at hy
 unfold Oper.wp
 rw [hex]
 generalize (execOp fin.eval oj).run P w=r at *
 cases r with
 | ok n w' =>
  cases n<;>simp only at hy<;>simp only [Oper.upon]
  case value u=>exact ⟨u,(hF u).move hr hoj (hput u) (hD u w' hy),hy⟩
  case enter f args =>
   obtain ⟨e1,hc⟩:=hy
   rw [e1]
   exact hc.mono fun e w'' ⟨v,he,hw''⟩=>by subst he;exact ⟨v,(hF v).move hr hoj (hput v) (hD v w'' hw''),hw''⟩
 | halt x w'=>simp only at hy
theorem EvJ.refin (J:EvJ ops fin Gr W seen a w) {fin':Act} (hs:fin'.tmps.size=fin.tmps.size) (hd:fin'.defers=fin.defers)
  (h:∀ t,(∀ (i:Nat) (o:Oper),ops[i]?=some o→o.dst=some t→seen.getD i false=true)→fin.tmps[t]?=fin'.tmps[t]?):EvJ ops fin' Gr W seen a w :=
 ⟨J.ssz,J.closed,J.size.trans hs.symm,J.defers.trans hd.symm,fun t h2=>(J.same t h2).trans (h t h2),J.gr⟩
theorem qzN {Q:Exit→Act→World→Prop} (C:FlowC ops [] []) (H:EvH P ops G R F Gr ini W) {γ:Nat→Value} (J:EvJ ops (F γ) Gr W seen a w) (I:∀ g∈G,seen.getD g false=true→R g (γ g) w) {j:Nat} (hj:j∈Region.ready .any ops seen) :
  wpOp P ops Q j (fun a' w'=>∃ γ',EvJ ops (F γ') Gr W (seen.setIfInBounds j true) a' w'∧∀ g∈G,(seen.setIfInBounds j true).getD g false=true→R g (γ' g) w') a w:=by
 obtain ⟨hun,oj,hoj,_⟩:=mem_ready.1 hj
 have hjs:j<seen.size:=by rw [J.ssz];exact (Array.getElem?_eq_some_iff.1 hoj).1
 have hRw:∀ g∈G,waitsIn ops 8 j g=true→R g (γ g) w:=fun g hg hw=>by
  refine I g hg ?_
  have:=qbV (J.shut hj) _ _ _ hw (by simp [hjs])
  rcases qaO this with e|h
  ·subst e
   have hl:∀ (f i:Nat),waitsIn ops f i j=true→i≠j∧j<i∨False:=by
    intro f
    induction f with
    | zero=>intro i h;simp [waitsIn] at h
    | succ f ih =>
     intro i h
     unfold waitsIn at h
     split at h
     ·rename_i o ho
      obtain ⟨e,he,hb⟩:=Array.any_eq_true'.1 h
      simp only [Bool.and_eq_true,Bool.or_eq_true,beq_iff_eq] at hb
      have hlt:=C.less i o ho e he hb.1
      rcases hb.2 with h1|h1
      ·left;omega
      ·rcases ih _ h1 with ⟨_,h2⟩|h2
       ·left;omega
       ·exact h2.elim
     ·cases h
   rcases hl _ _ hw with ⟨h1,_⟩|h1
   ·exact absurd rfl h1
   ·exact h1.elim
  ·exact h
 by_cases hjG:j∈G
 ·obtain ⟨hw,hy⟩:=H.g γ j hjG oj hoj w J.gr hRw
  have hns:seen.getD j false=false:=getD_both hun
  have hsame:∀ v,EvJ ops (F (updG γ j v)) Gr W seen a w:=fun v=>by
   refine J.refin (by rw [(H.size _).1,(H.size _).1]) (by rw [(H.size _).2,(H.size _).2]) fun t hs=>H.dep _ _ t (fun i o ho hd g hg hw=>?_)
   have hi:=hs i o ho hd
   have hgs:seen.getD g false=true:=by
    rcases hw with rfl|hw
    ·exact hi
    ·exact qbV J.closed _ _ _ hw hi
   unfold updG
   rw [if_neg fun e=>by rw [e,hns] at hgs;cases hgs]
  refine wpOp_mono (fun a' w' ⟨v,J',hgr,hR⟩=>⟨updG γ j v,J',fun g hg hs=>?_⟩) (J.stepG C hj hoj hw hy (fun v w'' h=>H.tr _ _ _ J.gr h.1) hsame fun v=>by
   have:=H.put (updG γ j v) j hjG oj hoj
   rwa [show updG γ j v j=v by simp [updG]] at this)
  by_cases e:g=j
  ·subst e;simpa [updG] using hR
  ·have:=H.up _ _ _ _ (I g hg ((qaO hs).resolve_left fun h=>e h.symm)) J.gr hgr
   simpa [updG,e] using this
 ·refine wpOp_mono (fun a' w' ⟨J',hbl⟩=>⟨γ,J',fun g hg hs=>?_⟩) (J.stepX C hj hoj (fun b hb=>H.tr _ _ _ J.gr (H.be _ _ hb J.gr)) (H.x γ j oj hoj hjG w J.gr hRw))
  exact H.up _ _ _ _ (I g hg ((qaO hs).resolve_left fun e=>hjG (by rw [e];exact hg))) J.gr (H.be _ _ hbl J.gr)
theorem qzO {γ:Nat→Value} (J:EvJ ops (F γ) Gr W seen a w) (I:∀ g∈G,seen.getD g false=true→R g (γ g) w) (hG:∀ g∈G,g<ops.size) (hall:∀ j,j<ops.size→seen.getD j false=true) :
  a=F γ∧Gr W w∧∀ g∈G,R g (γ g) w:=by
 refine ⟨?_,J.gr,fun g hg=>I g hg (hall g (hG g hg))⟩
 have h1:a.tmps=(F γ).tmps:=by
  apply Array.ext_getElem?
  intro t
  exact J.same t fun i o h _=>hall i (Array.getElem?_eq_some_iff.1 h).1
 have h2:=J.defers
 cases a;cases hF:F γ
 rw [hF] at h1 h2
 simp only at h1 h2
 rw [h1,h2]
end
section
variable {P:Program} {l:List Oper} {n:Nat}
theorem jbA {Q:Exit→Act→World→Prop} {G:List Nat} {R:Nat→Value→World→Prop} {F:(Nat→Value)→Act} {Gr:World→World→Prop} {ini:Act} {W:World}
  (hT:tailB l n=true) (C:FlowC (l.take n).toArray [] []) (H:EvH P (l.take n).toArray G R F Gr ini W) (hG:∀ g∈G,g<n)
  (hQ:∀ γ w,Gr W w→(∀ g∈G,R g (γ g) w)→wpList P l.toArray Q (l.drop n) (F γ) w) :
  ∀ (f:Nat) (sh seen:Array Bool) (a:Act) (w:World) (γ:Nat→Value),cnt sh=f→seen.size=l.length→(∀ i,i<n→seen.getD i false=sh.getD i false)→(∀ i,n≤i→i<l.length→seen.getD i false=false) →
  EvJ (l.take n).toArray (F γ) Gr W sh a w→(∀ g∈G,sh.getD g false=true→R g (γ g) w)→wpAny P .any l.toArray Q (f+(l.length - n)) seen a w:=by
 unfold tailB at hT
 simp only [Bool.and_eq_true,decide_eq_true_eq] at hT
 obtain ⟨⟨⟨hn,hgd⟩,hwt⟩,hsq⟩:=hT
 have hsz:(l.take n).toArray.size=n:=by simp;omega
 have hgd':∀ j,j<n→∀ o g b,l[j]?=some o→o.guard=some (g,b)→g<n:=fun j hj o g b ho hgo=>by
  have:=List.all_eq_true.1 hgd j (List.mem_range.2 hj)
  simpa [ho,hgo] using this
 have hwt':∀ j,n≤j→j<l.length→∀ i,i<n→waitsIn l.toArray 8 j i=true:=fun j h1 h2 i hi=>by
  have:=List.all_eq_true.1 hwt j (List.mem_range.2 h2)
  simp only [Bool.or_eq_true,decide_eq_true_eq] at this
  have:=this.resolve_left (by omega)
  exact List.all_eq_true.1 this i (List.mem_range.2 hi)
 intro f
 induction f with
 | zero =>
  intro sh seen a w γ hc hss hs1 hs2 J I
  have hall:∀ j,j<(l.take n).toArray.size→sh.getD j false=true:=qhO C J.ssz (qgL hc)
  obtain ⟨rfl,hE,hGE⟩:=qzO J I (fun g hg=>by rw [hsz];exact hG g hg) hall
  have hseen:seen=(List.replicate n true++List.replicate (l.length - n) false).toArray:=by
   apply Array.ext_getElem?
   intro i
   by_cases hi:i<l.length
   ·have h1:seen[i]?=some (seen.getD i false):=by simp [hss,hi]
    rw [h1]
    by_cases hin:i<n
    ·rw [hs1 i hin,hall i (by rw [hsz];exact hin)]
     simp [List.getElem?_append_left,List.getElem?_replicate,hin]
    ·rw [hs2 i (by omega) hi]
     have:i - n<l.length - n:=by omega
     simp [List.getElem?_append_right (show (List.replicate n true).length≤i by simp;omega),List.getElem?_replicate,this]
   ·rw [Array.getElem?_eq_none (by omega),Array.getElem?_eq_none (by simp;omega)]
  rw [Nat.zero_add]
  have:=wpAny_of_seq (md:=.any) (P:=P) (ops:=l.toArray) (Q':=Q) (l.drop n) n seen (F γ) w (fun j=>by simp [List.getElem?_drop]) (by rw [List.length_drop,hseen];exact hsq) (hQ γ w hE hGE)
  rwa [List.length_drop] at this
 | succ f ih =>
  intro sh seen a w γ hc hss hs1 hs2 J I
  have hex:∃ i,i<n∧sh.getD i true=false:=by
   by_cases h:∃ i,i<n∧sh.getD i true=false
   ·exact h
   ·exfalso
    have:cnt sh=0:=by
     unfold cnt
     rw [List.countP_eq_zero]
     intro b hb hbf
     obtain ⟨i,hi⟩:=List.mem_iff_getElem?.1 hb
     have hil:i<sh.size:=by have:=(List.getElem?_eq_some_iff.1 hi).1;simpa using this
     refine h ⟨i,by rw [J.ssz,hsz] at hil;exact hil,?_⟩
     rw [Array.getElem?_toList] at hi
     have:b=false:=by simpa using hbf
     simp [hi,this]
    omega
  obtain ⟨i0,hi0,hu0⟩:=hex
  have hcl:∀ j oj,l.toArray[j]?=some oj→seen.getD j false=true→∀ e∈oj.after,Region.binds .any e=true→seen.getD e.on false=true:=by
   intro j oj ho hs e he hb
   have hjl:j<l.length:=by have:=(Array.getElem?_eq_some_iff.1 ho).1;simpa using this
   have hjn:j<n:=by
    rcases Nat.lt_or_ge j n with h|h
    ·exact h
    ·rw [hs2 j h hjl] at hs;cases hs
   have ho':(l.take n).toArray[j]?=some oj:=by rw [qgP hn hjn];exact ho
   have hlt:=C.less j oj ho' e he hb
   rw [hs1 e.on (by omega)]
   exact J.closed j oj ho' (by rw [←hs1 j hjn];exact hs) e he hb
  rw [show f+1+(l.length - n)=(f+(l.length - n))+1 by omega]
  have step:∀ j∈Region.ready .any l.toArray seen,j<n∧j∈Region.ready .any (l.take n).toArray sh:=by
   intro j hj
   obtain ⟨hun,oj,hoj,hall⟩:=mem_ready.1 hj
   have hjl:j<l.length:=by have:=(Array.getElem?_eq_some_iff.1 hoj).1;simpa using this
   have hjn:j<n:=by
    rcases Nat.lt_or_ge j n with h|h
    ·exact h
    ·exfalso
     have hw:=hwt' j h hjl i0 hi0
     unfold waitsIn at hw
     rw [hoj] at hw
     obtain ⟨e,he,hb⟩:=Array.any_eq_true'.1 hw
     simp only [Bool.and_eq_true,Bool.or_eq_true,beq_iff_eq] at hb
     have h1:=hall e he hb.1
     have h2:seen.getD i0 false=true:=by
      rcases hb.2 with rfl|h2
      ·exact h1
      ·exact qbV hcl _ _ _ h2 h1
     rw [hs1 i0 hi0,getD_both hu0] at h2;cases h2
   refine ⟨hjn,mem_ready.2 ⟨?_,oj,by rw [qgP hn hjn];exact hoj,fun e he hb=>?_⟩⟩
   ·have h1:=getD_both hun
    rw [hs1 j hjn] at h1
    exact getD_in (by rw [J.ssz,hsz];exact hjn) h1
   ·have hlt:=C.less j oj (by rw [qgP hn hjn];exact hoj) e he hb
    rw [←hs1 e.on (by omega)]
    exact hall e he hb
  refine ⟨fun h0=>?_,fun j hj=>?_⟩
  ·exfalso
   have hr:Region.ready .any (l.take n).toArray sh≠[]:=fun h=>by
    have:=qhO C J.ssz h i0 (by rw [hsz];exact hi0)
    rw [getD_both hu0] at this;cases this
   obtain ⟨j,hj⟩:=List.exists_mem_of_ne_nil _ hr
   obtain ⟨hun,oj,hoj,hall⟩:=mem_ready.1 hj
   have hjn:j<n:=by have:=(Array.getElem?_eq_some_iff.1 hoj).1;rwa [hsz] at this
   have:j∈Region.ready .any l.toArray seen:=by
    refine mem_ready.2 ⟨?_,oj,by rw [←qgP hn hjn];exact hoj,fun e he hb=>?_⟩
    ·have h1:=getD_both hun
     rw [←hs1 j hjn] at h1
     exact getD_in (by rw [hss];omega) h1
    ·have hlt:=C.less j oj hoj e he hb
     rw [hs1 e.on (by omega)]
     exact hall e he hb
   rw [h0] at this;cases this
  ·obtain ⟨hjn,hjr⟩:=step j hj
   have hc':cnt (sh.setIfInBounds j true)=f:=by have:=qnR (mem_ready.1 hjr).1;omega
   refine qqV hn hjn (hgd' j hjn) (wpOp_mono (fun a' w' ⟨γ',J',I'⟩=>ih _ _ a' w' γ' hc' (by simpa using hss) (fun i hi=>?_) (fun i hi hil=>?_) J' I') (qzN (Q:=Q) C H J I hjr))
   ·by_cases e:j=i
    ·subst e
     have h1:j<seen.size:=by rw [hss];omega
     have h2:j<sh.size:=by rw [J.ssz,hsz];exact hjn
     simp [h1,h2]
    ·rw [getD_set_ne false e,getD_set_ne false e];exact hs1 i hi
   ·rw [getD_set_ne false (by omega)];exact hs2 i hi hil
theorem qkC {id:Nat} {Q:Exit→Act→World→Prop} {a:Act} {w:World} (n:Nat) (G:List Nat) (R:Nat→Value→World→Prop) (Gr:World→World→Prop) (vs:List Vl) (F:(Nat→Value)→Act) {h t:List Oper} (hh:l.take n=h) (ht:l.drop n=t) (hfin:∀ γ,finG vs a γ=F γ)
  (hm:P.follows .mixedOrders=true) (hB:flowB h.toArray [] (vs.map (·.t)) a.tmps.size=true) (hV:vlB h.toArray G vs=true) (hT:tailB l n=true) (hGi:(G.all fun g=>decide (g<n))=true)
  (htr:∀ a b c,Gr a b→Gr b c→Gr a c) (hst:Gr w w) (hbe:∀ a b,Below a.heap.size a b→Gr w a→Gr a b) (hup:∀ g v x y,R g v x→Gr w x→Gr x y→R g v y)
  (hX:∀ γ W',Gr w W'→flowXG P h.toArray (fun w'=>∃ p:GB,w'=gw W' p.d p.os) G (fun g=>R g (γ g) W') (F γ) (fun k=>G.contains k) 0 h)
  (hg:∀ γ,∀ j∈G,∀ oj,h.toArray[j]?=some oj→∀ W',Gr w W'→(∀ g∈G,waitsIn h.toArray 8 j g=true→R g (γ g) W') →
   Region.wanted oj (yielded h.toArray (F γ).tmps)=true∧GY P (F γ) oj W' (fun v w''=>Gr W' w''∧R j v w''))
  (hput:∀ γ,∀ j∈G,∀ oj,h.toArray[j]?=some oj→(F γ).put oj.dst (γ j)=F γ)
  (hQ:∀ γ w',Gr w w'→(∀ g∈G,R g (γ g) w')→wpList P l.toArray Q t (F γ) w'):(Code.region id l.toArray true).wp P Q a w:=by
 subst hh ht
 obtain ⟨C,hts,-⟩:=jaX hB
 have hgin:∀ g∈G,g<n:=fun g hg=>of_decide_eq_true (List.all_eq_true.1 hGi g hg)
 have hd:∀ e∈vs,∃ (i:Nat) (o:Oper),(l.take n).toArray[i]?=some o∧o.dst=some e.t:=fun e he=>by obtain ⟨_,i,o,ho,hd,_⟩:=hts e.t (List.mem_map.2 ⟨e,he,rfl⟩);exact ⟨i,o,ho,hd⟩
 have hsz:∀ γ,(F γ).tmps.size=a.tmps.size∧(F γ).defers=a.defers:=fun γ=>by rw [←hfin];exact qmC vs a γ
 have hn:n≤l.length:=by
  unfold tailB at hT
  simp only [Bool.and_eq_true,decide_eq_true_eq] at hT
  exact hT.1.1.1
 have hlen:(l.take n).toArray.size=n:=by simp;omega
 have hdr:Gr w w.drew:=hbe _ _ ⟨rfl,rfl,rfl,Nat.le_refl _,fun _ _=>rfl⟩ hst
 have H:EvH P (l.take n).toArray G R F Gr a w:=by
  refine ⟨htr,hbe,hup,fun γ j oj hoj hjG W' hK hR=>?_,hg,hput,?_,hsz⟩
  ·have hjl:(l.take n)[j]?=some oj:=by simpa using hoj
   exact qmB (l.take n) 0 (hX γ W' hK) j oj hjl (by simpa using hjG) (by simpa using hR)
  ·intro γ γ' t h
   rw [←hfin,←hfin]
   refine qmD vs a a rfl rfl fun e he het g hg=>?_
   obtain ⟨i,o,ho,hdo⟩:=hd e he
   have hv:=List.all_eq_true.1 hV e he
   have hv:=List.all_eq_true.1 hv g hg
   simp only [Bool.and_eq_true] at hv
   have h1:=List.all_eq_true.1 hv.2 i (List.mem_range.2 (Array.getElem?_eq_some_iff.1 ho).1)
   have hdi:dstIs (l.take n).toArray i e.t=true:=qeL.2 ⟨o,ho,hdo⟩
   simp only [hdi,Bool.not_true,Bool.false_or,Bool.or_eq_true,beq_iff_eq] at h1
   exact h i o ho (by rw [hdo,het]) g (by simpa using hv.1) h1
 have h0:∀ i,(Array.replicate (l.take n).toArray.size false).getD i false=false:=getD_replicate_false _
 have J:EvJ (l.take n).toArray (F fun _=>undef) Gr w (Array.replicate (l.take n).toArray.size false) a w.drew:=by
  refine ⟨by simp,fun j oj _ h=>absurd h (by rw [h0];exact Bool.noConfusion),(hsz _).1.symm,(hsz _).2.symm,fun t ht=>?_,hdr⟩
  rw [←hfin]
  refine (qoY vs a _ fun e he het=>?_).symm
  obtain ⟨i,o,ho,hdo⟩:=hd e he
  have:=ht i o ho (by rw [hdo,het])
  rw [h0] at this;cases this
 refine wp_region_any hm ?_
 have:=jbA (Q:=Q) hT C H hgin hQ _ _ (Array.replicate l.toArray.size false) a w.drew _ (qkN _) (by simp) (fun i _=>by rw [h0,getD_replicate_false]) (fun i _ _=>getD_replicate_false _ _) J (fun g _ h=>absurd h (by rw [h0];exact Bool.noConfusion))
 rw [hlen,show n+(l.length - n)=l.toArray.size by simp;omega] at this
 exact this
end
end Go.Proofs.YtooeabibhjbkoaaGreat
