import Derived.Test.YtmcekgapelanhaaGreatBiW
import Derived.StillTailTactics
set_option linter.unusedVariables false
set_option linter.unusedSimpArgs false
namespace Go.Proofs.YtmcekgapelanhaaGreat
open Go.RowKit
structure Vl where
 t:Tmp
 ds:List Nat
 f:List Value→Value
def finG (vs:List Vl) (a:Act) (γ:Nat→Value):Act:=vs.foldl (fun a e=>a.put (some e.t) (e.f (e.ds.map γ))) a
def vlB (ops:Array Oper) (G:List Nat) (vs:List Vl):Bool:=vs.all fun e=>e.ds.all fun g=>G.contains g&&(List.range ops.size).all fun j=>!dstIs ops j e.t || (g==j || waitsIn ops 8 j g)
def updG (γ:Nat→Value) (j:Nat) (v:Value):Nat→Value:=fun k=>if k=j then v else γ k
theorem finG_size:∀ (vs:List Vl) (a:Act) (γ:Nat→Value),(finG vs a γ).tmps.size=a.tmps.size∧(finG vs a γ).defers=a.defers
 | [],_,_=>⟨rfl,rfl⟩
 | e::vs,a,γ=>by
  have:=finG_size vs (a.put (some e.t) (e.f (e.ds.map γ))) γ
  unfold finG at this ⊢
  rw [List.foldl_cons]
  exact ⟨by rw [this.1,put_size],by rw [this.2,put_defers]⟩
theorem finG_out {t:Tmp}:∀ (vs:List Vl) (a:Act) (γ:Nat→Value),(∀ e∈vs,e.t≠t)→(finG vs a γ).tmps[t]?=a.tmps[t]?
 | [],_,_,_=>rfl
 | e::vs,a,γ,h=>by
  have:=finG_out vs (a.put (some e.t) (e.f (e.ds.map γ))) γ (fun x hx=>h x (List.mem_cons_of_mem _ hx))
  unfold finG at this ⊢
  rw [List.foldl_cons,this,put_at fun c=>h e mms (Option.some.inj c)]
theorem finG_same {t:Tmp} {γ γ':Nat→Value}:∀ (vs:List Vl) (a a':Act),a.tmps.size=a'.tmps.size→a.tmps[t]?=a'.tmps[t]?→(∀ e∈vs,e.t=t→∀ g∈e.ds,γ g=γ' g)→(finG vs a γ).tmps[t]?=(finG vs a' γ').tmps[t]?
 | [],_,_,_,h,_=>h
 | e::vs,a,a',hs,h,hd=>by
  have:=finG_same vs (a.put (some e.t) (e.f (e.ds.map γ))) (a'.put (some e.t) (e.f (e.ds.map γ'))) (by rw [put_size,put_size,hs]) (by
   by_cases he:e.t=t
   ·have hm:e.ds.map γ=e.ds.map γ':=List.map_congr_left fun g hg=>hd e mms he g hg
    rw [hm,he]
    simp only [Act.put,Array.getElem?_setIfInBounds,hs,if_true]
   ·rw [put_at fun c=>he (Option.some.inj c),put_at fun c=>he (Option.some.inj c),h]) (fun x hx=>hd x (List.mem_cons_of_mem _ hx))
  unfold finG at this ⊢
  rw [List.foldl_cons,List.foldl_cons]
  exact this
structure GhOk (R:Nat→Value→World→Prop) (ft:Nat→Value→Nat→Prop):Prop where
 up:∀ g v w w',R g v w→Below w.heap.size w w'→R g v w'
 put:∀ g v w b o cs,R g v w→(∀ q,ft g v q→q≠b)→R g v (w.setCells b o cs)
structure FlowF (G:List Nat) (R:Nat→Value→World→Prop) (ft:Nat→Value→Nat→Prop) (pl:List Pl) (W:World) (β:Nat→Nat) (γ:Nat→Value) (seen:Array Bool) (w:World):Prop where
 r:∀ g∈G,seen.getD g false=true→R g (γ g) w
 a:∀ g∈G,seen.getD g false=true→∀ q,ft g (γ g) q→(W.heap.size≤q∧q<w.heap.size∧∀ p∈pl,p.new=true→seen.getD p.i false=true→β p.i≠q)∨(q<W.heap.size∧∀ p∈pl,p.new=false→p.b≠q)
def GY (P:Program) (fin:Act) (o:Oper) (W:World) (D:Value→World→Prop):Prop:=match (execOp fin.eval o).run P W with
 | .ok (.value v) w''=>D v w''
 | .ok (.enter f args) w''=>w''=W∧Calls P f args W (fun e w3=>∃ v,e=.returned v∧D v w3)
 | _=>False
theorem GY.value {P:Program} {fin:Act} {o:Oper} {W w':World} {D:Value→World→Prop} {v:Value} (h:(execOp fin.eval o).run P W=.ok (.value v) w') (hD:D v w'):GY P fin o W D:=by
 unfold GY;rw [h];exact hD
theorem GY.call {P:Program} {fin:Act} {o:Oper} {W:World} {D:Value→World→Prop} {f:FuncId} {args:Array Value} (h:(execOp fin.eval o).run P W=.ok (.enter f args) W) (hD:Calls P f args W (fun e w3=>∃ v,e=.returned v∧D v w3)):GY P fin o W D:=by
 unfold GY;rw [h];exact ⟨rfl,hD⟩
section
variable {P:Program} {ops:Array Oper} {pl:List Pl} {L:List Tmp} {fin ini:Act} {W:World} {β:Nat→Nat} {seen:Array Bool} {a:Act} {w:World}
theorem FlowJ.stepA2 {Q:Exit→Act→World→Prop} (C:FlowC ops pl L) (J:FlowJ ops pl fin ini W β seen a w) {p:Pl} (hp:p∈pl) (hn:p.new=true) (hr:p.i∈Region.ready .any ops seen) (hd:p.d<fin.tmps.size)
  (hAl:∃ z,LaysAs P p.ty z∧p.cs.length≤z.size) :
  wpOp P ops Q p.i (fun a' w'=>∃ β',FlowJ ops pl fin ini W β' (seen.setIfInBounds p.i true) a' w'∧(∀ q∈pl,q.new=true→q.i≠p.i→β' q.i=β q.i)∧β' p.i=w.heap.size∧Below w.heap.size w w') a w:=by
 obtain ⟨o,ho,hg,hdd,hop,hws,ho0,hnS⟩:=C.lay p hp hn
 obtain ⟨z,hrun',hz⟩:=hAl
 have hrun:=hrun' o hop
 generalize hty':p.ty=ty' at hrun
 have hun:=(mem_ready.1 hr).1
 have nS:∀ q∈pl,q.s≠p.i:=fun q hq e=>by
  have:isS pl p.i=true:=List.any_eq_true.2 ⟨q,hq,by simp [e]⟩
  rw [hnS] at this;cases this
 have hoth:∀ q∈pl,q.new=true→q.i=p.i→q=p:=fun q hq hqn e=>by
  rcases C.two q hq p hp with h|h
  ·exact h
  ·exact absurd e (h.2 hqn hn).1
 unfold wpOp
 simp only [ho]
 rw [if_pos (by simp [Region.wanted,hg])]
 left
 unfold Oper.wp
 rw [hrun]
 simp only [Oper.upon,hdd]
 refine ⟨fun k=>if k=p.i then w.heap.size else β k,?_,fun q _ _ hne=>by simp [hne],by simp,(Below.refl _ _).alloc (Nat.le_refl _) _⟩
 have hba:Below w.heap.size w (w.alloc (.cells z ty')):=(Below.refl _ _).alloc (Nat.le_refl _) _
 refine ⟨by simp [J.ssz],J.shut hr,by rw [put_size,J.size],by rw [put_defers,J.defers],?_,?_,J.os,J.tape,J.output,Nat.le_trans J.big hba.size,?_,?_,?_,?_,?_⟩
 ·intro t htn hw
  rw [put_at (fun e=>htn p hp hn (Option.some.inj e))]
  exact J.same t htn fun i oi hi hdi=>(set_seen (hw i oi hi hdi)).resolve_left fun e2=>by
   subst e2;rw [ho] at hi;cases hi;rw [hdd] at hdi;exact htn p hp hn (Option.some.inj hdi)
 ·intro t hw
  have hj:p.d≠t:=fun e=>by
   have:=hw p.i o ho (by rw [hdd,e])
   have hlt:p.i<seen.size:=by rw [J.ssz];exact (Array.getElem?_eq_some_iff.1 ho).1
   simp [hlt] at this
  rw [put_at (fun e=>hj (Option.some.inj e))]
  exact J.init t fun i oi hi hd=>set_unseen (hw i oi hi hd)
 ·intro k hk hq
  rw [hba.block k (Nat.lt_of_lt_of_le hk J.big)]
  exact J.keep k hk fun q hq' hqn hb'=>set_unseen (hq q hq' hqn hb')
 ·intro q hq hqn hs
  by_cases e:q.i=p.i
  ·obtain rfl:=hoth q hq hqn e
   simp only [if_true]
   refine ⟨J.big,by simp,?_,there_fresh _ _ _ hz⟩
   simp [Act.put,J.size,hd]
  ·have hs:=(set_seen hs).resolve_left (fun h=>e h.symm)
   obtain ⟨h1,h2,h3,h4⟩:=J.laid q hq hqn hs
   simp only [if_neg e]
   refine ⟨h1,Nat.lt_of_lt_of_le h2 hba.size,?_,World.there_alloc h4 _⟩
   rw [put_at fun hc=>?_]
   ·exact h3
   ·rcases C.two q hq p hp with h|h
    ·exact e (by rw [h])
    ·exact (h.2 hqn hn).2 (Option.some.inj hc).symm
 ·intro q hq hqn
  exact World.there_alloc (J.old q hq hqn) _
 ·intro q hq r hr' hqn hrn h1 h2
  by_cases e1:q.i=p.i<;>by_cases e2:r.i=p.i
  ·intro _;rw [e1,e2]
  ·simp only [e1,if_true,if_neg e2]
   intro h
   have:=(J.laid r hr' hrn ((set_seen h2).resolve_left (fun h=>e2 h.symm))).2.1
   omega
  ·simp only [e2,if_true,if_neg e1]
   intro h
   have:=(J.laid q hq hqn ((set_seen h1).resolve_left (fun h=>e1 h.symm))).2.1
   omega
  ·simp only [if_neg e1,if_neg e2]
   exact J.apart q hq r hr' hqn hrn ((set_seen h1).resolve_left (fun h=>e1 h.symm)) ((set_seen h2).resolve_left (fun h=>e2 h.symm))
 ·intro q hq hs
  have hs':=(set_seen hs).resolve_left (nS q hq).symm
  clear hs
  have hb:q.blk (fun k=>if k=p.i then w.heap.size else β k)=q.blk β:=by
   unfold Pl.blk
   cases hqn:q.new with
   | false=>simp
   | true =>
    have hne:q.i≠p.i:=fun e=>by
     obtain rfl:=hoth q hq hqn e
     have:=waits_seen J.closed hws hs'
     rw [getD_both hun] at this;cases this
    simp [hne]
  rw [hb]
  exact World.rangeAt_alloc (J.held q hq hs') _
theorem FlowJ.stepS2 {Q:Exit→Act→World→Prop} (C:FlowC ops pl L) (J:FlowJ ops pl fin ini W β seen a w) {p:Pl} (hp:p∈pl) (hr:p.s∈Region.ready .any ops seen)
  (hold:∀ q∈pl,q.new=false→q.b<W.heap.size∧fin.tmps[q.d]?=some (.pointer (some ⟨q.b,q.so,none⟩)))
  (hdb:∀ q∈pl,∀ r∈pl,q.new=false→r.new=false→q.b=r.b→q=r)
  (hpre:p.new=false→W.rangeAt p.b p.o p.pre)
  (hSt:StOk P fin p) :
  wpOp P ops Q p.s (fun a' w'=>FlowJ ops pl fin ini W β (seen.setIfInBounds p.s true) a' w'∧w'=w.setCells (p.blk β) p.so p.scs) a w:=by
 obtain ⟨o,ho,hg,hdn,hop,hxt,hxL,hdL⟩:=C.store p hp
 obtain ⟨⟨v,hx,hvs⟩,hi,hk,hlo,hhi,hat0,heff⟩:=hSt
 have hun:=(mem_ready.1 hr).1
 have hlt:p.s<seen.size:=by rw [J.ssz];exact (Array.getElem?_eq_some_iff.1 ho).1
 have hlook:∀ x,Operand.tmp x∈o.op.operands→x∈o.looksAt ops:=fun x hx=>List.mem_append_left _ (List.mem_filterMap.2 ⟨.tmp x,by simpa using hx,rfl⟩)
 have hax:a.tmps[p.x]?=some v:=by
  rw [J.sees C hr ho (hlook p.x (by simp [hop,Op.operands])) hxL hxt];exact hx
 have hap:a.tmps[p.d]?=some (.pointer (some ⟨p.blk β,p.so,none⟩))∧w.there (p.blk β) p.o p.cs.length∧(p.new=true→W.heap.size≤p.blk β):=by
  cases hpn:p.new with
  | true =>
   obtain ⟨_,_,_,_,_,hws,ho0,_⟩:=C.lay p hp hpn
   obtain ⟨h1,_,h3,h4⟩:=J.laid p hp hpn (waits_ready hws hr)
   simp only [Pl.blk,hpn,if_true,ho0,hat0 hpn]
   exact ⟨h3,h4,fun _=>h1⟩
  | false =>
   simp only [Pl.blk,hpn,Bool.false_eq_true,if_false]
   refine ⟨?_,J.old p hp hpn,fun h=>by cases h⟩
   rw [J.sees C hr ho (hlook p.d (by simp [hop,Op.operands])) hdL (C.oldd p hp hpn)]
   exact (hold p hp hpn).2
 obtain ⟨h1,h2,h3⟩:=hap
 unfold wpOp
 simp only [ho]
 rw [if_pos (by simp [Region.wanted,hg])]
 left
 have hvl:v.cells.size=p.scs.length:=by rw [←hvs,Array.length_toList]
 have hpw:p.new=false→w.rangeAt (p.blk β) p.o p.pre:=fun hpn=>by
  have hk2:=J.keep p.b (hold p hp hpn).1 fun q hq hqn hb'=>by
   have:=hdb q hq p hp hqn hpn hb'
   rw [this];exact getD_both hun
  have hr:=hpre hpn
  simp only [Pl.blk,hpn,Bool.false_eq_true,if_false]
  intro j v hj
  rw [World.cell?_of_block (w:=W) hk2];exact hr j v hj
 refine wp_store_v p.ty _ _ hop (p.blk β) p.so v (by simp [Act.eval,h1]) (by simp [Act.eval,hax]) (fun j hj=>by
  have:=h2 (p.so - p.o+j) (by omega)
  rwa [show p.o+(p.so - p.o+j)=p.so+j by omega] at this) (by rw [hvl];exact hi) (Array.all_eq_true_iff_forall_mem.2 fun x hx=>hk x (by rw [←hvs];simpa using hx)) ?_
 rw [hvs]
 have hput:a.put o.dst undef=a:=by rw [hdn];rfl
 rw [hput]
 have hso:=sets_os (p.blk β) p.scs p.so w
 have hsz:(w.setCells (p.blk β) p.so p.scs).heap.size=w.heap.size:=size_sets ..
 have hseen:(seen.setIfInBounds p.s true).getD p.s false=true:=by simp [hlt]
 have nI:∀ q∈pl,q.new=true→q.i≠p.s:=fun q hq hqn e=>by
  obtain ⟨_,_,_,_,_,_,_,hs⟩:=C.lay q hq hqn
  have:isS pl q.i=true:=List.any_eq_true.2 ⟨p,hp,by simp [e]⟩
  rw [hs] at this;cases this
 refine ⟨?_,rfl⟩
 refine ⟨by simp [J.ssz],J.shut hr,J.size,J.defers,?_,fun t hw=>J.init t fun i oi hi hd=>set_unseen (hw i oi hi hd),hso.1.trans J.os,hso.2.1.trans J.tape,hso.2.2.trans J.output,by rw [hsz];exact J.big,?_,?_,?_,?_,?_⟩
 ·intro x hxn hw
  exact J.same x hxn fun i oi hi' hdi=>(set_seen (hw i oi hi' hdi)).resolve_left fun e2=>by
   subst e2;rw [ho] at hi';cases hi';rw [hdn] at hdi;cases hdi
 ·intro k hkW hq
  rw [heap_sets k (p.blk β) ?_]
  ·exact J.keep k hkW fun q hq' hqn hb'=>set_unseen (hq q hq' hqn hb')
  ·intro e
   cases hpn:p.new with
   | true=>have:=h3 hpn;omega
   | false =>
    have:=hq p hp hpn (by rw [e];simp [Pl.blk,hpn])
    rw [hseen] at this;cases this
 ·intro q hq hqn hs
  have hs:=(set_seen hs).resolve_left (nI q hq hqn).symm
  obtain ⟨g1,g2,g3,g4⟩:=J.laid q hq hqn hs
  exact ⟨g1,by rw [hsz];exact g2,g3,World.there_setCells g4 _ _ _⟩
 ·intro q hq hqn
  exact World.there_setCells (J.old q hq hqn) _ _ _
 ·intro q hq r hr' hqn hrn g1 g2
  exact J.apart q hq r hr' hqn hrn ((set_seen g1).resolve_left (nI q hq hqn).symm) ((set_seen g2).resolve_left (nI r hr' hrn).symm)
 ·intro q hq hs
  rcases C.two q hq p hp with rfl|hne
  ·exact heff w _ hpw h2
  ·have hs:=(set_seen hs).resolve_left (fun h=>hne.1 h.symm)
   refine ranges_sets (J.held q hq hs) _ _ _ ?_
   intro e
   cases hpn:p.new with
   | true =>
    obtain ⟨_,_,_,_,_,hws,_,_⟩:=C.lay p hp hpn
    have hpi:=waits_ready hws hr
    cases hqn:q.new with
    | true =>
     obtain ⟨_,_,_,_,_,hqs,_,_⟩:=C.lay q hq hqn
     have hqi:=waits_seen J.closed hqs hs
     simp only [Pl.blk,hpn,hqn,if_true] at e
     exact (hne.2 hqn hpn).1 (J.apart p hp q hq hpn hqn hpi hqi e).symm
    | false =>
     have h5:=h3 hpn
     have h6:=(hold q hq hqn).1
     rw [e] at h5
     simp only [Pl.blk,hqn,Bool.false_eq_true,if_false] at h5
     omega
   | false =>
    cases hqn:q.new with
    | true =>
     obtain ⟨_,_,_,_,_,hqs,_,_⟩:=C.lay q hq hqn
     have h5:=(J.laid q hq hqn (waits_seen J.closed hqs hs)).1
     have h6:=(hold p hp hpn).1
     simp only [Pl.blk,hpn,hqn,if_true,Bool.false_eq_true,if_false] at e
     omega
    | false =>
     simp only [Pl.blk,hpn,hqn,Bool.false_eq_true,if_false] at e
     have:=hdb p hp q hq hpn hqn e
     exact hne.1 (by rw [this])
theorem FlowJ.stepX2 {Q:Exit→Act→World→Prop} (C:FlowC ops pl []) (J:FlowJ ops pl fin ini W β seen a w) {j:Nat} {oj:Oper} (hr:j∈Region.ready .any ops seen) (hoj:ops[j]?=some oj) (hA:isA pl j=false) (hS:isS pl j=false)
  (h:wpQuiet P ops (fun w'=>∃ p:GB,w'=gw w p.d p.os) (fun a'=>a'=fin) [oj] fin) :
  wpOp P ops Q j (fun a' w'=>FlowJ ops pl fin ini W β (seen.setIfInBounds j true) a' w'∧Below w.heap.size w w') a w:=by
 simp only [wpQuiet] at h
 by_cases hg:Region.wanted oj (yielded ops fin.tmps)=true
 ·rw [if_pos hg] at h
  obtain ⟨v,h1,h2⟩:=h
  refine wpOp_mono (fun a' w' ⟨J',hw⟩=>⟨J',?_⟩) (J.stepY C hr hoj hA hS hg h2 (h1 w (gw_of_below (Below.refl _ _))) fun w'' ⟨p,e⟩=>by rw [e];exact qbG w p.d p.os)
  rcases hw with rfl|⟨p,rfl⟩
  ·exact Below.refl _ _
  ·exact qbG w p.d p.os
 ·rw [if_neg hg] at h
  have hfree:∀ t∈oj.looksAt ops,∀ p∈pl,p.new=true→p.d≠t:=fun t ht p hp hn e=>C.free j oj hoj hS p hp hn (by rw [e];exact ht)
  have hwa:=wanted_same (a:=a) (b:=fin) (ops:=ops) (o:=oj) fun t ht=>J.sees C hr hoj ht (by simp) (hfree t ht)
  unfold wpOp
  simp only [hoj]
  rw [hwa,if_neg hg]
  exact ⟨J.move C hr hoj hA hS h (Below.refl _ _),Below.refl _ _⟩
theorem FlowJ.refin (J:FlowJ ops pl fin ini W β seen a w) {fin':Act} (hs:fin'.tmps.size=fin.tmps.size) (hd:fin'.defers=fin.defers)
  (h:∀ t,(∀ p∈pl,p.new=true→p.d≠t)→(∀ (i:Nat) (o:Oper),ops[i]?=some o→o.dst=some t→seen.getD i false=true)→fin.tmps[t]?=fin'.tmps[t]?):FlowJ ops pl fin' ini W β seen a w :=
 ⟨J.ssz,J.closed,J.size.trans hs.symm,J.defers.trans hd.symm,fun t h1 h2=>(J.same t h1 h2).trans (h t h1 h2),J.init,J.os,J.tape,J.output,J.big,J.keep,J.laid,J.old,J.apart,J.held⟩
theorem FlowJ.stepG {Q:Exit→Act→World→Prop} (C:FlowC ops pl []) (J:FlowJ ops pl fin ini W β seen a w) {j:Nat} {oj:Oper} (hr:j∈Region.ready .any ops seen) (hoj:ops[j]?=some oj) (hA:isA pl j=false) (hS:isS pl j=false)
  {F:Value→Act} {D:Value→World→Prop} (hg:Region.wanted oj (yielded ops fin.tmps)=true) (hy:GY P fin oj w D) (hD:∀ v w'',D v w''→Below w.heap.size w w'') (hF:∀ v,FlowJ ops pl (F v) ini W β seen a w) (hput:∀ v,(F v).put oj.dst v=F v) :
  wpOp P ops Q j (fun a' w'=>∃ v,FlowJ ops pl (F v) ini W β (seen.setIfInBounds j true) a' w'∧D v w') a w:=by
 have hfree:∀ t∈oj.looksAt ops,∀ p∈pl,p.new=true→p.d≠t:=fun t ht p hp hn e=>C.free j oj hoj hS p hp hn (by rw [e];exact ht)
 have hlk:∀ t∈oj.looksAt ops,a.tmps[t]?=fin.tmps[t]?:=fun t ht=>J.sees C hr hoj ht (by simp) (hfree t ht)
 have hex:=exec_same (a:=a) (b:=fin) (C.sel j oj · · hoj) hlk
 have hwa:=wanted_same (a:=a) (b:=fin) hlk
 unfold wpOp
 simp only [hoj]
 rw [hwa,if_pos hg]
 left
 unfold GY at hy
 unfold Oper.wp
 rw [hex]
 generalize (execOp fin.eval oj).run P w=r at *
 cases r with
 | ok n w' =>
  cases n<;>simp only at hy<;>simp only [Oper.upon]
  case value u=>exact ⟨u,(hF u).move C hr hoj hA hS (hput u) (hD u w' hy),hy⟩
  case enter f args =>
   obtain ⟨e1,hc⟩:=hy
   rw [e1]
   exact hc.mono fun e w'' ⟨v,he,hw''⟩=>by subst he;exact ⟨v,(hF v).move C hr hoj hA hS (hput v) (hD v w'' hw''),hw''⟩
 | halt x w'=>simp only at hy
structure FlowG (P:Program) (ops:Array Oper) (pl:List Pl) (G:List Nat) (R:Nat→Value→World→Prop) (ft:Nat→Value→Nat→Prop) (F:(Nat→Value)→Act) (ini:Act) (W:World):Prop where
 ok:GhOk R ft
 x:∀ γ j oj,ops[j]?=some oj→isA pl j=false→isS pl j=false→j∉G→∀ W',FlowK pl W W'→(early ops pl j=true→Below W.heap.size W W')→(∀ g∈G,waitsIn ops 8 j g=true→R g (γ g) W') →
  wpQuiet P ops (fun w'=>∃ p:GB,w'=gw W' p.d p.os) (fun a'=>a'=F γ) [oj] (F γ)
 g:∀ γ,∀ j∈G,∀ oj,ops[j]?=some oj→∀ W',FlowK pl W W'→(early ops pl j=true→Below W.heap.size W W')→(∀ g∈G,waitsIn ops 8 j g=true→R g (γ g) W') →
  Region.wanted oj (yielded ops (F γ).tmps)=true∧GY P (F γ) oj W' (fun v w''=>Below W'.heap.size W' w''∧R j v w''∧∀ q,ft j v q→(W'.heap.size≤q∧q<w''.heap.size)∨(q<W.heap.size∧∀ p∈pl,p.new=false→p.b≠q))
 put:∀ γ,∀ j∈G,∀ oj,ops[j]?=some oj→(F γ).put oj.dst (γ j)=F γ
 gin:∀ j∈G,isA pl j=false∧isS pl j=false
 dep:∀ γ γ' t,(∀ (j:Nat) (o:Oper),ops[j]?=some o→o.dst=some t→∀ g∈G,(g=j∨waitsIn ops 8 j g=true)→γ g=γ' g)→(∀ (j:Nat) (o:Oper),ops[j]?=some o→o.dst=some t→True)→(F γ).tmps[t]?=(F γ').tmps[t]?
 size:∀ γ,(F γ).tmps.size=ini.tmps.size∧(F γ).defers=ini.defers
 al:∀ p∈pl,p.new=true→p.d<ini.tmps.size∧∃ z,LaysAs P p.ty z∧p.cs.length≤z.size
 old:∀ q∈pl,q.new=false→q.b<W.heap.size∧(∀ γ,(F γ).tmps[q.d]?=some (.pointer (some ⟨q.b,q.so,none⟩)))∧W.there q.b q.o q.cs.length∧W.rangeAt q.b q.o q.pre
 db:∀ q∈pl,∀ r∈pl,q.new=false→r.new=false→q.b=r.b→q=r
 st:∀ γ,∀ p∈pl,StOk P (F γ) p
structure FlowGE (G:List Nat) (R:Nat→Value→World→Prop) (ft:Nat→Value→Nat→Prop) (pl:List Pl) (W:World) (β:Nat→Nat) (γ:Nat→Value) (w:World):Prop where
 r:∀ g∈G,R g (γ g) w
 a:∀ g∈G,∀ q,ft g (γ g) q→(W.heap.size≤q∧q<w.heap.size∧∀ p∈pl,p.new=true→β p.i≠q)∨(q<W.heap.size∧∀ p∈pl,p.new=false→p.b≠q)
section
variable {G:List Nat} {R:Nat→Value→World→Prop} {ft:Nat→Value→Nat→Prop} {F:(Nat→Value)→Act}
theorem flowG_step {Q:Exit→Act→World→Prop} (C:FlowC ops pl []) (H:FlowG P ops pl G R ft F ini W) {γ:Nat→Value} (J:FlowJ ops pl (F γ) ini W β seen a w) (I:FlowF G R ft pl W β γ seen w) {j:Nat} (hj:j∈Region.ready .any ops seen) :
  wpOp P ops Q j (fun a' w'=>∃ β' γ',FlowJ ops pl (F γ') ini W β' (seen.setIfInBounds j true) a' w'∧FlowF G R ft pl W β' γ' (seen.setIfInBounds j true) w') a w:=by
 obtain ⟨hun,oj,hoj,_⟩:=mem_ready.1 hj
 have hjs:j<seen.size:=by rw [J.ssz];exact (Array.getElem?_eq_some_iff.1 hoj).1
 have hK:FlowK pl W w:=⟨J.os,J.tape,J.output,J.big,fun k hk hp=>J.keep k hk fun p h1 h2 h3=>absurd h3 (hp p h1 h2)⟩
 have hE:early ops pl j=true→Below W.heap.size W w:=fun he=>⟨J.os,J.tape,J.output,J.big,fun k hk=>J.keep k hk fun p hp hn _=>by
  have h1:=List.all_eq_true.1 he p hp
  rw [hn,Bool.false_or] at h1
  cases hs:seen.getD p.s false with
  | false=>rfl
  | true =>
   have:=waitsIn_seen J.closed _ _ _ h1 hs
   rw [getD_both hun] at this;cases this⟩
 have hRw:∀ g∈G,waitsIn ops 8 j g=true→R g (γ g) w:=fun g hg hw=>by
  refine I.r g hg ?_
  have:=waitsIn_seen (J.shut hj) _ _ _ hw (by simp [hjs])
  rcases set_seen this with e|h
  ·subst e
   have hl:∀ (f i:Nat),waitsIn ops f i j=true→i≠j∧j<i∨False:=by
    intro f
    induction f with
    | zero=>intro i h;simp [waitsIn] at h
    | succ f ih =>
     intro i h
     unfold waitsIn at h
     split at h
     ·rename_i o ho
      obtain ⟨e,he,hb⟩:=Array.any_eq_true'.1 h
      simp only [Bool.and_eq_true,Bool.or_eq_true,beq_iff_eq] at hb
      have hlt:=C.less i o ho e he hb.1
      rcases hb.2 with h1|h1
      ·left;omega
      ·rcases ih _ h1 with ⟨_,h2⟩|h2
       ·left;omega
       ·exact h2.elim
     ·cases h
   rcases hl _ _ hw with ⟨h1,_⟩|h1
   ·exact absurd rfl h1
   ·exact h1.elim
  ·exact h
 cases hAj:isA pl j with
 | true =>
  obtain ⟨p,hp,hb⟩:=List.any_eq_true.1 hAj
  simp only [Bool.and_eq_true,beq_iff_eq] at hb
  obtain ⟨hn,rfl⟩:=hb
  refine wpOp_mono (fun a' w' ⟨β',J',hβ,hβp,hbl⟩=>⟨β',γ,J',?_⟩) (J.stepA2 C hp hn hj (by rw [(H.size γ).1];exact (H.al p hp hn).1) (H.al p hp hn).2)
  have hgs:∀ g∈G,(seen.setIfInBounds p.i true).getD g false=true→seen.getD g false=true:=fun g hg hs=>(set_seen hs).resolve_left fun e=>by
   have:=(H.gin g hg).1
   rw [←e,hAj] at this;cases this
  refine ⟨fun g hg hs=>H.ok.up _ _ _ _ (I.r g hg (hgs g hg hs)) hbl,fun g hg hs q hq=>?_⟩
  rcases I.a g hg (hgs g hg hs) q hq with ⟨h1,h2,h3⟩|h
  ·refine .inl ⟨h1,Nat.lt_of_lt_of_le h2 hbl.size,fun p2 hp2 hn2 hs2=>?_⟩
   by_cases e:p2.i=p.i
   ·rw [e,hβp];omega
   ·rw [hβ p2 hp2 hn2 e]
    exact h3 p2 hp2 hn2 ((set_seen hs2).resolve_left fun h=>e h.symm)
  ·exact .inr h
 | false =>
  cases hSj:isS pl j with
  | true =>
   obtain ⟨p,hp,hb⟩:=List.any_eq_true.1 hSj
   obtain rfl:=beq_iff_eq.1 hb
   refine wpOp_mono (fun a' w' ⟨J',hw⟩=>⟨β,γ,J',?_⟩) (J.stepS2 C hp hj (fun q hq hqn=>⟨(H.old q hq hqn).1,(H.old q hq hqn).2.1 γ⟩) H.db (fun hpn=>(H.old p hp hpn).2.2.2) (H.st γ p hp))
   subst hw
   have hgs:∀ g∈G,(seen.setIfInBounds p.s true).getD g false=true→seen.getD g false=true:=fun g hg hs=>(set_seen hs).resolve_left fun e=>by
    have:=(H.gin g hg).2
    rw [←e,hSj] at this;cases this
   have hps:p.new=true→seen.getD p.i false=true∧W.heap.size≤β p.i:=fun hn=>by
    obtain ⟨_,_,_,_,_,hws,_,_⟩:=C.lay p hp hn
    have h1:=waits_ready hws hj
    exact ⟨h1,(J.laid p hp hn h1).1⟩
   have hne:∀ g∈G,seen.getD g false=true→∀ q,ft g (γ g) q→q≠p.blk β:=fun g hg hs q hq e=>by
    unfold Pl.blk at e
    rcases I.a g hg hs q hq with ⟨h1,h2,h3⟩|⟨h1,h2⟩
    ·cases hpn:p.new with
     | true=>rw [hpn,if_pos rfl] at e;exact h3 p hp hpn (hps hpn).1 e.symm
     | false=>rw [hpn,if_neg (by simp)] at e;have:=(H.old p hp hpn).1;omega
    ·cases hpn:p.new with
     | true=>rw [hpn,if_pos rfl] at e;have:=(hps hpn).2;omega
     | false=>rw [hpn,if_neg (by simp)] at e;exact h2 p hp hpn e.symm
   refine ⟨fun g hg hs=>H.ok.put _ _ _ _ _ _ (I.r g hg (hgs g hg hs)) (hne g hg (hgs g hg hs)),fun g hg hs q hq=>?_⟩
   rcases I.a g hg (hgs g hg hs) q hq with ⟨h1,h2,h3⟩|h
   ·refine .inl ⟨h1,by rw [size_sets];exact h2,fun p2 hp2 hn2 hs2=>h3 p2 hp2 hn2 ((set_seen hs2).resolve_left fun e=>?_)⟩
    obtain ⟨_,_,_,_,_,_,_,hnS⟩:=C.lay p2 hp2 hn2
    rw [←e,hSj] at hnS;cases hnS
   ·exact .inr h
  | false =>
   by_cases hjG:j∈G
   ·obtain ⟨hw,hy⟩:=H.g γ j hjG oj hoj w hK hE hRw
    have hns:seen.getD j false=false:=getD_both hun
    have hsame:∀ v,FlowJ ops pl (F (updG γ j v)) ini W β seen a w:=fun v=>by
     refine J.refin (by rw [(H.size _).1,(H.size _).1]) (by rw [(H.size _).2,(H.size _).2]) fun t _ hs=>H.dep _ _ t (fun i o ho hd g hg hw=>?_) fun _ _ _ _=>trivial
     have hi:=hs i o ho hd
     have hgs:seen.getD g false=true:=by
      rcases hw with rfl|hw
      ·exact hi
      ·exact waitsIn_seen J.closed _ _ _ hw hi
     unfold updG
     rw [if_neg fun e=>by rw [e,hns] at hgs;cases hgs]
    refine wpOp_mono (fun a' w' ⟨v,J',hbl,hR,hft⟩=>⟨β,updG γ j v,J',?_⟩) (J.stepG C hj hoj hAj hSj hw hy (fun v w'' h=>h.1) hsame fun v=>by
     have:=H.put (updG γ j v) j hjG oj hoj
     rwa [show updG γ j v j=v by simp [updG]] at this)
    refine ⟨fun g hg hs=>?_,fun g hg hs q hq=>?_⟩
    ·by_cases e:g=j
     ·subst e;simpa [updG] using hR
     ·have:=H.ok.up _ _ _ _ (I.r g hg ((set_seen hs).resolve_left fun h=>e h.symm)) hbl
      simpa [updG,e] using this
    ·have hps:∀ p∈pl,p.new=true→(seen.setIfInBounds j true).getD p.i false=true→seen.getD p.i false=true:=fun p hp hn hs=>(set_seen hs).resolve_left fun e=>by
      have:isA pl j=true:=List.any_eq_true.2 ⟨p,hp,by simp [hn,e]⟩
      rw [hAj] at this;cases this
     by_cases e:g=j
     ·subst e
      rw [show updG γ g v g=v by simp [updG]] at hq
      rcases hft q hq with ⟨h1,h2⟩|h
      ·exact .inl ⟨Nat.le_trans J.big h1,h2,fun p hp hn hs=>by have:=(J.laid p hp hn (hps p hp hn hs)).2.1;omega⟩
      ·exact .inr h
     ·have hq':ft g (γ g) q:=by simpa [updG,e] using hq
      rcases I.a g hg ((set_seen hs).resolve_left fun h=>e h.symm) q hq' with ⟨h1,h2,h3⟩|h
      ·exact .inl ⟨h1,Nat.lt_of_lt_of_le h2 hbl.size,fun p hp hn hs=>h3 p hp hn (hps p hp hn hs)⟩
      ·exact .inr h
   ·refine wpOp_mono (fun a' w' ⟨J',hbl⟩=>⟨β,γ,J',?_⟩) (J.stepX2 C hj hoj hAj hSj (H.x γ j oj hoj hAj hSj hjG w hK hE hRw))
    have hgs:∀ g∈G,(seen.setIfInBounds j true).getD g false=true→seen.getD g false=true:=fun g hg hs=>(set_seen hs).resolve_left fun e=>hjG (by rw [e];exact hg)
    have hps:∀ p∈pl,p.new=true→(seen.setIfInBounds j true).getD p.i false=true→seen.getD p.i false=true:=fun p hp hn hs=>(set_seen hs).resolve_left fun e=>by
     have:isA pl j=true:=List.any_eq_true.2 ⟨p,hp,by simp [hn,e]⟩
     rw [hAj] at this;cases this
    refine ⟨fun g hg hs=>H.ok.up _ _ _ _ (I.r g hg (hgs g hg hs)) hbl,fun g hg hs q hq=>?_⟩
    rcases I.a g hg (hgs g hg hs) q hq with ⟨h1,h2,h3⟩|h
    ·exact .inl ⟨h1,Nat.lt_of_lt_of_le h2 hbl.size,fun p hp hn hs=>h3 p hp hn (hps p hp hn hs)⟩
    ·exact .inr h
theorem flowG_done (C:FlowC ops pl []) {γ:Nat→Value} (J:FlowJ ops pl (F γ) ini W β seen a w) (I:FlowF G R ft pl W β γ seen w) (hG:∀ g∈G,g<ops.size) (hall:∀ j,j<ops.size→seen.getD j false=true) :
  a=nP β pl (F γ)∧FlowE pl W β w∧FlowGE G R ft pl W β γ w:=by
 have hs:∀ i o,ops[i]?=some o→seen.getD i false=true:=fun i o h=>hall i (Array.getElem?_eq_some_iff.1 h).1
 have hi:∀ p∈pl,p.new=true→seen.getD p.i false=true:=fun p hp hn=>by
  obtain ⟨o,ho,_⟩:=C.lay p hp hn;exact hs _ o ho
 have hst:∀ p∈pl,seen.getD p.s false=true:=fun p hp=>by
  obtain ⟨o,ho,_⟩:=C.store p hp;exact hs _ o ho
 refine ⟨newPuts_is (β:=β) pl a (F γ) J.size J.defers (fun t ht=>J.same t ht fun i o h _=>hs i o h) fun p hp hn=>(J.laid p hp hn (hi p hp hn)).2.2.1,?_,?_⟩
 ·refine ⟨J.os,J.tape,J.output,J.big,fun k hk hp=>J.keep k hk fun p h1 h2 h3=>absurd h3 (hp p h1 h2),fun p hp hn=>?_,fun p hp hn=>?_,fun p hp q hq hpn hqn=>J.apart p hp q hq hpn hqn (hi p hp hpn) (hi q hq hqn)⟩
  ·obtain ⟨h1,h2,_,h4⟩:=J.laid p hp hn (hi p hp hn)
   have:=J.held p hp (hst p hp)
   obtain ⟨_,_,_,_,_,_,ho0,_⟩:=C.lay p hp hn
   simp only [Pl.blk,hn,if_true,ho0] at this
   exact ⟨h1,h2,h4,this⟩
  ·have:=J.held p hp (hst p hp)
   simp only [Pl.blk,hn,Bool.false_eq_true,if_false] at this
   exact ⟨J.old p hp hn,this⟩
 ·refine ⟨fun g hg=>I.r g hg (hall g (hG g hg)),fun g hg q hq=>?_⟩
  rcases I.a g hg (hall g (hG g hg)) q hq with ⟨h1,h2,h3⟩|h
  ·exact .inl ⟨h1,h2,fun p hp hn=>h3 p hp hn (hi p hp hn)⟩
  ·exact .inr h
end
end
def tailB (l:List Oper) (n:Nat):Bool :=
 decide (n≤l.length)&&(List.range n).all (fun j=>match l[j]? with|some o=>(match o.guard with|some (g,_)=>decide (g<n)|none=>true)|none=>true) &&
 (List.range l.length).all (fun j=>decide (j<n) || (List.range n).all fun i=>waitsIn l.toArray 8 j i) &&
 Region.seqB .any l.toArray (l.length - n) n ((List.replicate n true++List.replicate (l.length - n) false).toArray)
section
variable {P:Program} {l:List Oper} {n:Nat}
theorem head_op (hn:n≤l.length) {j:Nat} (hj:j<n):(l.take n).toArray[j]?=l.toArray[j]?:=by
 simp [List.getElem?_take,hj]
theorem wpOp_head {Q:Exit→Act→World→Prop} {K:Act→World→Prop} {a:Act} {w:World} (hn:n≤l.length) {j:Nat} (hj:j<n) (hg:∀ o g b,l[j]?=some o→o.guard=some (g,b)→g<n)
  (h:wpOp P (l.take n).toArray Q j K a w):wpOp P l.toArray Q j K a w:=by
 unfold wpOp at *
 rw [head_op hn hj] at h
 cases ho:l.toArray[j]? with
 | none=>simp only [ho] at h ⊢;exact h
 | some o =>
  simp only [ho] at h ⊢
  have hw:Region.wanted o (yielded (l.take n).toArray a.tmps)=Region.wanted o (yielded l.toArray a.tmps):=by
   unfold Region.wanted
   cases hgd:o.guard with
   | none=>rfl
   | some gb =>
    obtain ⟨g,b⟩:=gb
    have:=hg o g b (by simpa using ho) hgd
    simp only
    congr 1
    unfold yielded
    rw [head_op hn this]
  rwa [hw] at h
theorem tail_any {Q:Exit→Act→World→Prop} {pl:List Pl} {G:List Nat} {R:Nat→Value→World→Prop} {ft:Nat→Value→Nat→Prop} {F:(Nat→Value)→Act} {ini:Act} {W:World}
  (hT:tailB l n=true) (C:FlowC (l.take n).toArray pl []) (H:FlowG P (l.take n).toArray pl G R ft F ini W) (hG:∀ g∈G,g<n)
  (hQ:∀ β γ w,FlowE pl W β w→FlowGE G R ft pl W β γ w→wpList P l.toArray Q (l.drop n) (nP β pl (F γ)) w) :
  ∀ (f:Nat) (sh seen:Array Bool) (a:Act) (w:World) (β:Nat→Nat) (γ:Nat→Value),cnt sh=f→seen.size=l.length→(∀ i,i<n→seen.getD i false=sh.getD i false)→(∀ i,n≤i→i<l.length→seen.getD i false=false) →
  FlowJ (l.take n).toArray pl (F γ) ini W β sh a w→FlowF G R ft pl W β γ sh w→wpAny P .any l.toArray Q (f+(l.length - n)) seen a w:=by
 unfold tailB at hT
 simp only [Bool.and_eq_true,decide_eq_true_eq] at hT
 obtain ⟨⟨⟨hn,hgd⟩,hwt⟩,hsq⟩:=hT
 have hsz:(l.take n).toArray.size=n:=by simp;omega
 have hgd':∀ j,j<n→∀ o g b,l[j]?=some o→o.guard=some (g,b)→g<n:=fun j hj o g b ho hgo=>by
  have:=List.all_eq_true.1 hgd j (List.mem_range.2 hj)
  simpa [ho,hgo] using this
 have hwt':∀ j,n≤j→j<l.length→∀ i,i<n→waitsIn l.toArray 8 j i=true:=fun j h1 h2 i hi=>by
  have:=List.all_eq_true.1 hwt j (List.mem_range.2 h2)
  simp only [Bool.or_eq_true,decide_eq_true_eq] at this
  have:=this.resolve_left (by omega)
  exact List.all_eq_true.1 this i (List.mem_range.2 hi)
 intro f
 induction f with
 | zero =>
  intro sh seen a w β γ hc hss hs1 hs2 J I
  have hall:∀ j,j<(l.take n).toArray.size→sh.getD j false=true:=ready_all C J.ssz (none_ready hc)
  obtain ⟨rfl,hE,hGE⟩:=flowG_done C J I (fun g hg=>by rw [hsz];exact hG g hg) hall
  have hseen:seen=(List.replicate n true++List.replicate (l.length - n) false).toArray:=by
   apply Array.ext_getElem?
   intro i
   by_cases hi:i<l.length
   ·have h1:seen[i]?=some (seen.getD i false):=by simp [hss,hi]
    rw [h1]
    by_cases hin:i<n
    ·rw [hs1 i hin,hall i (by rw [hsz];exact hin)]
     simp [List.getElem?_append_left,List.getElem?_replicate,hin]
    ·rw [hs2 i (by omega) hi]
     have:i - n<l.length - n:=by omega
     simp [List.getElem?_append_right (show (List.replicate n true).length≤i by simp;omega),List.getElem?_replicate,this]
   ·rw [Array.getElem?_eq_none (by omega),Array.getElem?_eq_none (by simp;omega)]
  rw [Nat.zero_add]
  have:=wpAny_of_seq (md:=.any) (P:=P) (ops:=l.toArray) (Q':=Q) (l.drop n) n seen (nP β pl (F γ)) w (fun j=>by simp [List.getElem?_drop]) (by rw [List.length_drop,hseen];exact hsq) (hQ β γ w hE hGE)
  rwa [List.length_drop] at this
 | succ f ih =>
  intro sh seen a w β γ hc hss hs1 hs2 J I
  have hex:∃ i,i<n∧sh.getD i true=false:=by
   by_cases h:∃ i,i<n∧sh.getD i true=false
   ·exact h
   ·exfalso
    have:cnt sh=0:=by
     unfold cnt
     rw [List.countP_eq_zero]
     intro b hb hbf
     obtain ⟨i,hi⟩:=List.mem_iff_getElem?.1 hb
     have hil:i<sh.size:=by have:=(List.getElem?_eq_some_iff.1 hi).1;simpa using this
     refine h ⟨i,by rw [J.ssz,hsz] at hil;exact hil,?_⟩
     rw [Array.getElem?_toList] at hi
     have:b=false:=by simpa using hbf
     simp [hi,this]
    omega
  obtain ⟨i0,hi0,hu0⟩:=hex
  have hcl:∀ j oj,l.toArray[j]?=some oj→seen.getD j false=true→∀ e∈oj.after,Region.binds .any e=true→seen.getD e.on false=true:=by
   intro j oj ho hs e he hb
   have hjl:j<l.length:=by have:=(Array.getElem?_eq_some_iff.1 ho).1;simpa using this
   have hjn:j<n:=by
    rcases Nat.lt_or_ge j n with h|h
    ·exact h
    ·rw [hs2 j h hjl] at hs;cases hs
   have ho':(l.take n).toArray[j]?=some oj:=by rw [head_op hn hjn];exact ho
   have hlt:=C.less j oj ho' e he hb
   rw [hs1 e.on (by omega)]
   exact J.closed j oj ho' (by rw [←hs1 j hjn];exact hs) e he hb
  rw [show f+1+(l.length - n)=(f+(l.length - n))+1 by omega]
  have step:∀ j∈Region.ready .any l.toArray seen,j<n∧j∈Region.ready .any (l.take n).toArray sh:=by
   intro j hj
   obtain ⟨hun,oj,hoj,hall⟩:=mem_ready.1 hj
   have hjl:j<l.length:=by have:=(Array.getElem?_eq_some_iff.1 hoj).1;simpa using this
   have hjn:j<n:=by
    rcases Nat.lt_or_ge j n with h|h
    ·exact h
    ·exfalso
     have hw:=hwt' j h hjl i0 hi0
     unfold waitsIn at hw
     rw [hoj] at hw
     obtain ⟨e,he,hb⟩:=Array.any_eq_true'.1 hw
     simp only [Bool.and_eq_true,Bool.or_eq_true,beq_iff_eq] at hb
     have h1:=hall e he hb.1
     have h2:seen.getD i0 false=true:=by
      rcases hb.2 with rfl|h2
      ·exact h1
      ·exact waitsIn_seen hcl _ _ _ h2 h1
     rw [hs1 i0 hi0,getD_both hu0] at h2;cases h2
   refine ⟨hjn,mem_ready.2 ⟨?_,oj,by rw [head_op hn hjn];exact hoj,fun e he hb=>?_⟩⟩
   ·have h1:=getD_both hun
    rw [hs1 j hjn] at h1
    exact getD_in (by rw [J.ssz,hsz];exact hjn) h1
   ·have hlt:=C.less j oj (by rw [head_op hn hjn];exact hoj) e he hb
    rw [←hs1 e.on (by omega)]
    exact hall e he hb
  refine ⟨fun h0=>?_,fun j hj=>?_⟩
  ·exfalso
   have hr:Region.ready .any (l.take n).toArray sh≠[]:=fun h=>by
    have:=ready_all C J.ssz h i0 (by rw [hsz];exact hi0)
    rw [getD_both hu0] at this;cases this
   obtain ⟨j,hj⟩:=List.exists_mem_of_ne_nil _ hr
   obtain ⟨hun,oj,hoj,hall⟩:=mem_ready.1 hj
   have hjn:j<n:=by have:=(Array.getElem?_eq_some_iff.1 hoj).1;rwa [hsz] at this
   have:j∈Region.ready .any l.toArray seen:=by
    refine mem_ready.2 ⟨?_,oj,by rw [←head_op hn hjn];exact hoj,fun e he hb=>?_⟩
    ·have h1:=getD_both hun
     rw [←hs1 j hjn] at h1
     exact getD_in (by rw [hss];omega) h1
    ·have hlt:=C.less j oj hoj e he hb
     rw [hs1 e.on (by omega)]
     exact hall e he hb
   rw [h0] at this;cases this
  ·obtain ⟨hjn,hjr⟩:=step j hj
   have hc':cnt (sh.setIfInBounds j true)=f:=by have:=cnt_set (mem_ready.1 hjr).1;omega
   refine wpOp_head hn hjn (hgd' j hjn) (wpOp_mono (fun a' w' ⟨β',γ',J',I'⟩=>ih _ _ a' w' β' γ' hc' (by simpa using hss) (fun i hi=>?_) (fun i hi hil=>?_) J' I') (flowG_step (Q:=Q) C H J I hjr))
   ·by_cases e:j=i
    ·subst e
     have h1:j<seen.size:=by rw [hss];omega
     have h2:j<sh.size:=by rw [J.ssz,hsz];exact hjn
     simp [h1,h2]
    ·rw [getD_set_ne false e,getD_set_ne false e];exact hs1 i hi
   ·rw [getD_set_ne false (by omega)];exact hs2 i hi hil
def flowXG (P:Program) (ops:Array Oper) (C:World→Prop) (G:List Nat) (Rw:Nat→Prop) (fin:Act) (skip:Nat→Bool):Nat→List Oper→Prop
 | _,[]=>True
 | k,o::l=>(skip k=true∨((∀ g∈G,waitsIn ops 8 k g=true→Rw g)→wpQuiet P ops C (fun a'=>a'=fin) [o] fin))∧flowXG P ops C G Rw fin skip (k+1) l
section
variable {ops:Array Oper} {fin:Act} {G:List Nat} {Rw:Nat→Prop}
theorem flowXG_nil {C:World→Prop} {skip:Nat→Bool} {k:Nat}:flowXG P ops C G Rw fin skip k []:=trivial
theorem fxgs {C:World→Prop} {skip:Nat→Bool} {k:Nat} {o:Oper} {l:List Oper} (h:skip k=true) (h2:flowXG P ops C G Rw fin skip (k+1) l):flowXG P ops C G Rw fin skip k (o::l):=⟨.inl h,h2⟩
theorem fxgo {C:World→Prop} {skip:Nat→Bool} {k:Nat} {o:Oper} {l:List Oper} (h:wpQuiet P ops C (fun a'=>a'=fin) [o] fin) (h2:flowXG P ops C G Rw fin skip (k+1) l):flowXG P ops C G Rw fin skip k (o::l):=⟨.inr fun _=>h,h2⟩
theorem flowXG_of {C:World→Prop} {skip:Nat→Bool} {k:Nat} {o:Oper} {l:List Oper} (g:Nat) (hg:G.contains g=true) (hw:waitsIn ops 8 k g=true) (h:Rw g→wpQuiet P ops C (fun a'=>a'=fin) [o] fin) (h2:flowXG P ops C G Rw fin skip (k+1) l):flowXG P ops C G Rw fin skip k (o::l) :=
 ⟨.inr fun hf=>h (hf g (by simpa using hg) hw),h2⟩
theorem flowXG_at {C:World→Prop} {skip:Nat→Bool}:∀ (l:List Oper) (k:Nat),flowXG P ops C G Rw fin skip k l→∀ j o,l[j]?=some o→skip (k+j)=false→(∀ g∈G,waitsIn ops 8 (k+j) g=true→Rw g)→wpQuiet P ops C (fun a'=>a'=fin) [o] fin
 | [],_,_,j,o,h,_,_=>by simp at h
 | x::l,k,h,j,o,hj,hs,hf=>by
  cases j with
  | zero =>
   simp only [List.getElem?_cons_zero,Option.some.injEq] at hj
   subst hj
   exact (h.1.resolve_left (by rw [Nat.add_zero] at hs;rw [hs];exact Bool.noConfusion)) hf
  | succ j=>exact flowXG_at l (k+1) h.2 j o (by simpa using hj) (by rw [show k+1+j=k+(j+1) by omega];exact hs) (by rw [show k+1+j=k+(j+1) by omega];exact hf)
end
theorem wp_flowG {id:Nat} {Q:Exit→Act→World→Prop} {a:Act} {w:World} (n:Nat) (G:List Nat) (R:Nat→Value→World→Prop) (ft:Nat→Value→Nat→Prop) (pl:List Pl) (vs:List Vl) (F:(Nat→Value)→Act) (hfin:∀ γ,finG vs a γ=F γ)
  (hm:P.follows .mixedOrders=true) (hB:flowB (l.take n).toArray pl (vs.map (·.t)) a.tmps.size=true) (hV:vlB (l.take n).toArray G vs=true) (hT:tailB l n=true)
  (hGi:(G.all fun g=>decide (g<n)&&!isA pl g&&!isS pl g)=true) (hok:GhOk R ft)
  (hX:∀ γ W',Below w.heap.size w W'→flowXG P (l.take n).toArray (fun w'=>∃ p:GB,w'=gw W' p.d p.os) G (fun g=>R g (γ g) W') (F γ) (fun k=>isA pl k || isS pl k || G.contains k || !early (l.take n).toArray pl k) 0 (l.take n))
  (hY:∀ γ W',FlowK pl w W'→flowXG P (l.take n).toArray (fun w'=>∃ p:GB,w'=gw W' p.d p.os) G (fun g=>R g (γ g) W') (F γ) (fun k=>isA pl k || isS pl k || G.contains k || early (l.take n).toArray pl k) 0 (l.take n))
  (hg:∀ γ,∀ j∈G,∀ oj,(l.take n).toArray[j]?=some oj→∀ W',FlowK pl w W'→(early (l.take n).toArray pl j=true→Below w.heap.size w W')→(∀ g∈G,waitsIn (l.take n).toArray 8 j g=true→R g (γ g) W') →
   Region.wanted oj (yielded (l.take n).toArray (F γ).tmps)=true∧GY P (F γ) oj W' (fun v w''=>Below W'.heap.size W' w''∧R j v w''∧∀ q,ft j v q→(W'.heap.size≤q∧q<w''.heap.size)∨(q<w.heap.size∧∀ p∈pl,p.new=false→p.b≠q)))
  (hput:∀ γ,∀ j∈G,∀ oj,(l.take n).toArray[j]?=some oj→(F γ).put oj.dst (γ j)=F γ)
  (hAl:∀ p∈pl,p.new=true→∃ z,LaysAs P p.ty z∧p.cs.length≤z.size)
  (hOld:∀ q∈pl,q.new=false→q.b<w.heap.size∧(∀ γ,(F γ).tmps[q.d]?=some (.pointer (some ⟨q.b,q.so,none⟩)))∧w.there q.b q.o q.cs.length∧w.rangeAt q.b q.o q.pre)
  (hDb:∀ q∈pl,∀ r∈pl,q.new=false→r.new=false→q.b=r.b→q=r)
  (hSt:∀ γ,∀ p∈pl,StOk P (F γ) p)
  (hQ:∀ β γ w',FlowE pl w β w'→FlowGE G R ft pl w β γ w'→wpList P l.toArray Q (l.drop n) (nP β pl (F γ)) w'):(Code.region id l.toArray true).wp P Q a w:=by
 obtain ⟨C,hts,hpd⟩:=flowC hB
 have hgin:∀ g∈G,g<n∧isA pl g=false∧isS pl g=false:=fun g hg=>by
  have:=List.all_eq_true.1 hGi g hg
  simp only [Bool.and_eq_true,decide_eq_true_eq,Bool.not_eq_true'] at this
  exact ⟨this.1.1,this.1.2,this.2⟩
 have up:∀ {W':World},Below w.drew.heap.size w.drew W'→Below w.heap.size w W':=fun h=>⟨h.os,h.tape,h.output,h.size,h.block⟩
 have upK:∀ {W':World},FlowK pl w.drew W'→FlowK pl w W':=fun h=>⟨h.os,h.tape,h.output,h.big,h.keep⟩
 have hd:∀ e∈vs,∃ (i:Nat) (o:Oper),(l.take n).toArray[i]?=some o∧o.dst=some e.t:=fun e he=>by obtain ⟨_,i,o,ho,hd,_⟩:=hts e.t (List.mem_map.2 ⟨e,he,rfl⟩);exact ⟨i,o,ho,hd⟩
 have hsz:∀ γ,(F γ).tmps.size=a.tmps.size∧(F γ).defers=a.defers:=fun γ=>by rw [←hfin];exact finG_size vs a γ
 have hn:n≤l.length:=by
  unfold tailB at hT
  simp only [Bool.and_eq_true,decide_eq_true_eq] at hT
  exact hT.1.1.1
 have hlen:(l.take n).toArray.size=n:=by simp;omega
 have H:FlowG P (l.take n).toArray pl G R ft F a w.drew:=by
  refine ⟨hok,?_,?_,hput,fun g hg=>(hgin g hg).2,?_,hsz,fun p hp hn=>⟨hpd p hp hn,hAl p hp hn⟩,fun q hq hqn=>?_,hDb,hSt⟩
  ·intro γ j oj hoj hA hS hjG W' hK hW' hR
   have hjl:(l.take n)[j]?=some oj:=by simpa using hoj
   have hGc:G.contains j=false:=by simpa using hjG
   cases he:early (l.take n).toArray pl j with
   | true=>exact flowXG_at (l.take n) 0 (hX γ W' (up (hW' he))) j oj hjl (by simp [hA,hS,he,hjG]) (by simpa using hR)
   | false=>exact flowXG_at (l.take n) 0 (hY γ W' (upK hK)) j oj hjl (by simp [hA,hS,he,hjG]) (by simpa using hR)
  ·intro γ j hj oj hoj W' hK hW' hR
   exact hg γ j hj oj hoj W' (upK hK) (fun he=>up (hW' he)) hR
  ·intro γ γ' t h _
   rw [←hfin,←hfin]
   refine finG_same vs a a rfl rfl fun e he het g hg=>?_
   obtain ⟨i,o,ho,hdo⟩:=hd e he
   have hv:=List.all_eq_true.1 hV e he
   have hv:=List.all_eq_true.1 hv g hg
   simp only [Bool.and_eq_true] at hv
   have h1:=List.all_eq_true.1 hv.2 i (List.mem_range.2 (Array.getElem?_eq_some_iff.1 ho).1)
   have hdi:dstIs (l.take n).toArray i e.t=true:=dstIs_iff.2 ⟨o,ho,hdo⟩
   simp only [hdi,Bool.not_true,Bool.false_or,Bool.or_eq_true,beq_iff_eq] at h1
   exact h i o ho (by rw [hdo,het]) g (by simpa using hv.1) h1
  ·obtain ⟨h1,h2,h3,h4⟩:=hOld q hq hqn
   exact ⟨h1,h2,by simpa using h3,h4⟩
 have h0:∀ i,(Array.replicate (l.take n).toArray.size false).getD i false=false:=getD_replicate_false _
 have J:FlowJ (l.take n).toArray pl (F fun _=>undef) a w.drew (fun _=>0) (Array.replicate (l.take n).toArray.size false) a w.drew:=by
  refine ⟨by simp,fun j oj _ h=>absurd h (by rw [h0];exact Bool.noConfusion),(hsz _).1.symm,(hsz _).2.symm,fun t _ ht=>?_,fun _ _=>rfl,rfl,rfl,rfl,Nat.le_refl _,fun _ _ _=>rfl,fun p _ _ h=>absurd h (by rw [h0];exact Bool.noConfusion),fun q hq hqn=>(H.old q hq hqn).2.2.1,fun p _ q _ _ _ h=>absurd h (by rw [h0];exact Bool.noConfusion),fun p _ h=>absurd h (by rw [h0];exact Bool.noConfusion)⟩
  rw [←hfin]
  refine (finG_out vs a _ fun e he het=>?_).symm
  obtain ⟨i,o,ho,hdo⟩:=hd e he
  have:=ht i o ho (by rw [hdo,het])
  rw [h0] at this;cases this
 have I:FlowF G R ft pl w.drew (fun _=>0) (fun _=>undef) (Array.replicate (l.take n).toArray.size false) w.drew :=
  ⟨fun g _ h=>absurd h (by rw [h0];exact Bool.noConfusion),fun g _ h=>absurd h (by rw [h0];exact Bool.noConfusion)⟩
 refine wp_region_any hm ?_
 have:=tail_any (Q:=Q) hT C H (fun g hg=>(hgin g hg).1) (fun β γ w' E GE=>hQ β γ w' ⟨E.os,E.tape,E.output,E.big,E.keep,E.laid,E.old,E.apart⟩ ⟨GE.r,GE.a⟩) _ _ (Array.replicate l.toArray.size false) a w.drew _ _ (seen_none _) (by simp) (fun i _=>by rw [h0,getD_replicate_false]) (fun i _ _=>getD_replicate_false _ _) J I
 rw [hlen,show n+(l.length - n)=l.toArray.size by simp;omega] at this
 exact this
theorem wp_flowH {id:Nat} {Q:Exit→Act→World→Prop} {a:Act} {w:World} (n:Nat) (G:List Nat) (R:Nat→Value→World→Prop) (ft:Nat→Value→Nat→Prop) (pl:List Pl) (vs:List Vl) (F:(Nat→Value)→Act) {h t:List Oper} (hh:l.take n=h) (ht:l.drop n=t) (hfin:∀ γ,finG vs a γ=F γ)
  (hm:P.follows .mixedOrders=true) (hB:flowB h.toArray pl (vs.map (·.t)) a.tmps.size=true) (hV:vlB h.toArray G vs=true) (hT:tailB l n=true)
  (hGi:(G.all fun g=>decide (g<n)&&!isA pl g&&!isS pl g)=true) (hok:GhOk R ft)
  (hX:∀ γ W',Below w.heap.size w W'→flowXG P h.toArray (fun w'=>∃ p:GB,w'=gw W' p.d p.os) G (fun g=>R g (γ g) W') (F γ) (fun k=>isA pl k || isS pl k || G.contains k || !early h.toArray pl k) 0 h)
  (hY:∀ γ W',FlowK pl w W'→flowXG P h.toArray (fun w'=>∃ p:GB,w'=gw W' p.d p.os) G (fun g=>R g (γ g) W') (F γ) (fun k=>isA pl k || isS pl k || G.contains k || early h.toArray pl k) 0 h)
  (hg:∀ γ,∀ j∈G,∀ oj,h.toArray[j]?=some oj→∀ W',FlowK pl w W'→(early h.toArray pl j=true→Below w.heap.size w W')→(∀ g∈G,waitsIn h.toArray 8 j g=true→R g (γ g) W') →
   Region.wanted oj (yielded h.toArray (F γ).tmps)=true∧GY P (F γ) oj W' (fun v w''=>Below W'.heap.size W' w''∧R j v w''∧∀ q,ft j v q→(W'.heap.size≤q∧q<w''.heap.size)∨(q<w.heap.size∧∀ p∈pl,p.new=false→p.b≠q)))
  (hput:∀ γ,∀ j∈G,∀ oj,h.toArray[j]?=some oj→(F γ).put oj.dst (γ j)=F γ)
  (hAl:∀ p∈pl,p.new=true→∃ z,LaysAs P p.ty z∧p.cs.length≤z.size)
  (hOld:∀ q∈pl,q.new=false→q.b<w.heap.size∧(∀ γ,(F γ).tmps[q.d]?=some (.pointer (some ⟨q.b,q.so,none⟩)))∧w.there q.b q.o q.cs.length∧w.rangeAt q.b q.o q.pre)
  (hDb:∀ q∈pl,∀ r∈pl,q.new=false→r.new=false→q.b=r.b→q=r)
  (hSt:∀ γ,∀ p∈pl,StOk P (F γ) p)
  (hQ:∀ β γ w',FlowE pl w β w'→FlowGE G R ft pl w β γ w'→wpList P l.toArray Q t (nP β pl (F γ)) w'):(Code.region id l.toArray true).wp P Q a w:=by
 subst hh ht
 exact wp_flowG n G R ft pl vs F hfin hm hB hV hT hGi hok hX hY hg hput hAl hOld hDb hSt hQ
end
end Go.Proofs.YtmcekgapelanhaaGreat
