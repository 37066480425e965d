import Derived.Test.YtnkmhbiklffjlaaToA
import Derived.Deep.RegionHeld3
import Derived.Deep.CutRange
set_option linter.unusedVariables false
set_option linter.unusedSimpArgs false
set_option maxRecDepth 100000
namespace Go.Proofs.Ytnkmhbiklffjlaa
open Go.RowKit
section
variable {P:Program} {ops:Array Oper} {md:Region.Mode} {C:World→Prop}
def gateB (md:Region.Mode) (ops:Array Oper) (n:Nat):Bool :=
 (List.range (n - 1)).all (fun i=>(List.range n).any fun j=>decide (i<j)&&Region.waitsFor md ops j i)&&(List.range ops.size).all fun t=>decide (t<n) || Region.waitsFor md ops t (n - 1)
def lexT (md:Region.Mode) (ops:Array Oper) (T:Array Bool):Nat→Nat→Array Bool→Bool
 | 0,_,seen=>seen==T
 | f+1,k,seen=>(Region.ready md ops seen).contains k&&Region.free md ops seen k&&lexT md ops T f (k+1) (seen.setIfInBounds k true)
def headB (md:Region.Mode) (ops:Array Oper) (n:Nat) (T:Array Bool):Bool :=
 Region.noSelect ops&&decide (0<n)&&decide (n<ops.size)&&gateB md ops n&&(Region.ready md ops T).all (fun j=>decide (n≤j))&&lexT md ops T n 0 (Array.replicate ops.size false)
theorem gate_waits {n:Nat} {seen:Array Bool} (hg:gateB md ops n=true) (hn0:0<n) (hn:n<ops.size) (inv:HeadInv md ops n seen) {i:Nat} (hi:i<n) (hun:seen.getD i true=false) {t:Nat} (ht:n≤t):t∉Region.ready md ops seen:=by
 intro hr
 simp only [gateB,Bool.and_eq_true] at hg
 obtain ⟨_,ot,hot,hall⟩:=mem_ready.1 hr
 have htl:t<ops.size:=(Array.getElem?_eq_some_iff.1 hot).1
 have hlast:seen.getD (n - 1) false=true:=by
  have h1:=List.all_eq_true.1 hg.2 t (List.mem_range.2 htl)
  simp only [Bool.or_eq_true,decide_eq_true_eq] at h1
  rcases h1 with h1|h1
  ·omega
  ·obtain ⟨o',ho',e,he,hb,hon⟩:=Region.waitsFor_spec h1
   obtain rfl:o'=ot:=Option.some.inj (ho'.symm.trans hot)
   rw [←hon];exact hall e he hb
 have hev:∀ (d j:Nat),n - 1 - j=d→j<n→seen.getD j false=true:=by
  intro d
  induction d using Nat.strongRecOn with
  | _ d ih =>
   intro j hd hj
   by_cases hjn:j=n - 1
   ·subst hjn;exact hlast
   ·have h1:=List.all_eq_true.1 hg.1 j (List.mem_range.2 (by omega))
    obtain ⟨k,hk,hk2⟩:=List.any_eq_true.1 h1
    simp only [Bool.and_eq_true,decide_eq_true_eq] at hk2
    obtain ⟨ok,hok,e,he,hb,hon⟩:=Region.waitsFor_spec hk2.2
    have hkn:=List.mem_range.1 hk
    rw [←hon]
    exact inv.closed k ok hok (ih (n - 1 - k) (by omega) k rfl hkn) e he hb
 have:=hev _ i rfl hi
 rw [getD_both hun] at this
 cases this
theorem headG_first {n i:Nat} {oi:Oper} {v:Value} {L:Array Bool→Act→Prop} (hi:ops[i]?=some oi) (hsel:∀ (j:Nat) (o:Oper) cs b,ops[j]?=some o→o.op≠.select cs b)
  (hw:∀ seen,HeadInv md ops n seen→∀ i,i<n→seen.getD i true=false→∀ t,n≤t→t∉Region.ready md ops seen) (hin:i<n) (hdone:∀ seen a,L seen a→∀ j∈Region.ready md ops seen,n≤j) :
  ∀ (f:Nat) (seen:Array Bool) (a:Act),HeadInv md ops n seen →
   (∀ j oj,ops[j]?=some oj→j≠i→seen.getD j true=false→(∀ e∈oj.after,Region.binds md e=true→e.on≠i)→oi.apart ops oj=true) →
   i∈Region.ready md ops seen→YieldsIn P ops C oi v a →
   headQ P md ops C n L f (seen.setIfInBounds i true) (a.put oi.dst v)→headQ P md ops C n L (f+1) seen a:=by
 intro f
 induction f with
 | zero =>
  intro seen a inv _ hr hy H
  have hun:=(mem_ready.1 hr).1
  refine ⟨List.ne_nil_of_mem hr,fun j hj=>?_⟩
  have hjn:j<n:=Nat.lt_of_not_le fun h=>hw _ inv i hin hun j h hj
  refine ⟨hjn,?_⟩
  by_cases e:j=i
  ·subst e;exact hy.qOp hi H
  ·exact absurd (hdone _ _ H j (ready_mono hj e)) (by omega)
 | succ f ih =>
  intro seen a inv hfree hr hy H
  have hun:=(mem_ready.1 hr).1
  refine ⟨List.ne_nil_of_mem hr,fun j hj=>?_⟩
  have hjn:j<n:=Nat.lt_of_not_le fun h=>hw _ inv i hin hun j h hj
  refine ⟨hjn,?_⟩
  by_cases e:j=i
  ·subst e;exact hy.qOp hi H
  obtain ⟨hju,oj,hoj,hall⟩:=mem_ready.1 hj
  have hnot:∀ e∈oj.after,Region.binds md e=true→e.on≠i:=fun e he hb heq=>by
   have h1:=hall e he hb
   rw [heq,getD_both hun] at h1
   cases h1
  refine qOp_mono (fun a' h3=>ih _ a' (inv.set hj hjn) (fun k ok hk hki hu hno=>?_) (ready_mono hr (Ne.symm e)) h3.1 ?_)
   (qOp_put hoj (hfree j oj hoj e hju hnot) (fun cs b=>hsel i oi cs b hi) (fun cs b=>hsel j oj cs b hoj) hy (H.2 j (ready_mono hj e)).2)
  ·by_cases hjk:j=k
   ·subst hjk;exact hfree j ok hk hki hju hno
   ·exact hfree k ok hk hki (by rwa [getD_set_ne true hjk] at hu) hno
  ·rw [Array.setIfInBounds_comm _ _ e]
   exact h3.2
theorem headG_lex {n:Nat} {T:Array Bool} {Lq:Act→Prop} (hsel:Region.noSelect ops=true) (hw:∀ seen,HeadInv md ops n seen→∀ i,i<n→seen.getD i true=false→∀ t,n≤t→t∉Region.ready md ops seen)
  (hT:∀ j∈Region.ready md ops T,n≤j) :
  ∀ (l:List Oper) (k:Nat) (seen:Array Bool) (a:Act),(∀ j,j<l.length→l[j]?=ops[k+j]?)→k+l.length=n→HeadInv md ops n seen →
  lexT md ops T l.length k seen=true→wpQuiet P ops C Lq l a→headQ P md ops C n (fun seen' a'=>seen'=T∧Lq a') l.length seen a:=by
 intro l
 induction l with
 | nil =>
  intro k seen a _ hk _ hB h
  exact ⟨by simpa [lexT] using hB,h⟩
 | cons o l ih =>
  intro k seen a hl hk inv hB h
  have h0:ops[k]?=some o:=by simpa using (hl 0 (by simp)).symm
  simp only [List.length_cons,lexT,Bool.and_eq_true] at hB hk
  obtain ⟨⟨hr,hf⟩,hB'⟩:=hB
  have hkn:k<n:=by omega
  have hr':k∈Region.ready md ops seen:=by simpa using hr
  have hst:qOp P ops C k (wpQuiet P ops C Lq l) a:=by unfold qOp;simp only [h0];exact h
  obtain ⟨v,hy,hK⟩:=yieldsIn_of_qOp h0 hst
  refine headG_first h0 (Region.noSelect_spec hsel) hw hkn (fun seen' a' hL=>by rw [hL.1];exact hT) l.length seen a inv (Region.free_spec h0 hf) hr' hy ?_
  exact ih (k+1) _ _ (fun j hj=>by have:=hl (j+1) (by simp;omega);simpa [Nat.add_assoc,Nat.add_comm 1 j] using this) (by omega) (inv.set hr' hkn) hB' hK
theorem wp_region_quiet_any {id:Nat} {Q:Exit→Act→World→Prop} {a:Act} {w:World} {l:List Oper} (n:Nat) (T:Array Bool) (S:World→Prop) (hm:P.follows .mixedOrders=true) (hB:headB .any l.toArray n T=true) (hC:C w.drew)
  (h:wpQuiet P l.toArray C (fun a'=>∀ w',C w'→wpAnyH P .any l.toArray (NoPanic Q) S (l.length - n) T a' w') (l.take n) a):(Code.region id l.toArray true).wp P Q a w:=by
 simp only [headB,Bool.and_eq_true,decide_eq_true_eq] at hB
 obtain ⟨⟨⟨⟨⟨hsel,hn0⟩,hn⟩,hg⟩,hT⟩,hlex⟩:=hB
 have hn':n<l.length:=by simpa using hn
 have htl:(l.take n).length=n:=by simp;omega
 have inv0:HeadInv .any l.toArray n (Array.replicate l.toArray.size false) :=
  ⟨by simp,fun j oj _ hl=>(by rw [getD_replicate_false] at hl;cases hl),fun t _ ht=>getD_in (by simpa using ht) (getD_replicate_false _ _)⟩
 have H:=headG_lex (md:=.any) (T:=T) hsel (fun seen inv i hi hun t ht=>gate_waits hg hn0 hn inv hi hun ht) (fun j hj=>by simpa using List.all_eq_true.1 hT j hj) (l.take n) 0 _ a (fun j hj=>by
  have hj':j<n:=by rw [htl] at hj;exact hj
  simp [hj']) (by simpa using htl) inv0 (by rw [htl];exact hlex) h
 refine wp_region_noPanic (wp_region_any hm ?_)
 have:=any_of_headQ (Q':=NoPanic Q) (g:=l.length - n) (fun seen a' w' hw' hL=>by
  rw [hL.1]
  exact wpAny_of_held _ _ _ _ (hL.2 w' hw')) _ _ _ _ hC H
 rw [htl,show n+(l.length - n)=l.toArray.size by simp;omega] at this
 exact this
theorem wp_region_below_any {id:Nat} {Q:Exit→Act→World→Prop} {a:Act} {w:World} {l:List Oper} (n:Nat) (T:Array Bool) (S:World→Prop) (hm:P.follows .mixedOrders=true) (hB:headB .any l.toArray n T=true)
  (h:wpQuiet P l.toArray (fun w'=>∃ p:GB,w'=gw w p.d p.os) (fun a'=>∀ w',(∃ p:GB,w'=gw w p.d p.os)→wpAnyH P .any l.toArray (NoPanic Q) S (l.length - n) T a' w') (l.take n) a):(Code.region id l.toArray true).wp P Q a w :=
 wp_region_quiet_any (C:=fun w'=>∃ p:GB,w'=gw w p.d p.os) n T S hm hB (gw_of_below (below_drew (Below.refl _ _))) h
theorem tail_pair {P:Program} {ops:Array Oper} {md:Region.Mode} {T:Array Bool} {Q:Exit→Act→World→Prop} {a:Act} {w:World} (i0 i1 i2 i3:Nat) {o0 o1 o2 o3:Oper} (d0 d1 d3:Tmp) (ty:TypeId) (x p:Operand) (b:Nat) (c0:List Value) (u:Value)
  (k0:ops[i0]?=some o0) (k1:ops[i1]?=some o1) (k2:ops[i2]?=some o2) (k3:ops[i3]?=some o3) (hsel:Region.noSelect ops=true)
  (f0:Region.free md ops T i0=true) (r0:(Region.ready md ops T).contains i0=true)
  (f1:Region.free md ops (T.setIfInBounds i0 true) i1=true) (r1:(Region.ready md ops (T.setIfInBounds i0 true)).contains i1=true)
  (r2:Region.ready md ops ((T.setIfInBounds i0 true).setIfInBounds i1 true)=[i2]) (r3:Region.ready md ops (((T.setIfInBounds i0 true).setIfInBounds i1 true).setIfInBounds i2 true)=[i3])
  (r4:Region.ready md ops ((((T.setIfInBounds i0 true).setIfInBounds i1 true).setIfInBounds i2 true).setIfInBounds i3 true)=[])
  (g0:o0.guard=none) (g1:o1.guard=none) (g2:o2.guard=none) (g3:o3.guard=none)
  (n0:o0.dst=some d0) (n1:o1.dst=some d1) (n2:o2.dst=none) (n3:o3.dst=some d3)
  (h0:o0.op=.extract x 0) (h1:o1.op=.extract x 1) (h2:o2.op=.store ty p (.tmp d0)) (h3:o3.op=.assign (.tmp d1))
  (e0:a.eval x=.tuple #[.agg c0.toArray,u]) (e1:(a.put (some d0) (.agg c0.toArray)).eval x=.tuple #[.agg c0.toArray,u])
  (e2:((a.put (some d0) (.agg c0.toArray)).put (some d1) u).eval p=.pointer (some ⟨b,0,none⟩)) (e2':((a.put (some d0) (.agg c0.toArray)).put (some d1) u).eval (.tmp d0)=.agg c0.toArray)
  (e3:(((a.put (some d0) (.agg c0.toArray)).put (some d1) u).put none undef).eval (.tmp d1)=u)
  (ht:w.there b 0 c0.length) (hi:(P.info? ty).map (·.size)=some c0.length) (k:c0.toArray.all (·.oneCell')=true)
  (hfin:Q .normal ((((a.put (some d0) (.agg c0.toArray)).put (some d1) u).put none undef).put (some d3) u) (w.setCells b 0 c0)) :
  wpAnyH P md ops (NoPanic Q) (fun _=>True) 4 T a w:=by
 refine wpAnyH_take (i:=i0) (oi:=o0) (v:=.agg c0.toArray) k0 hsel f0 r0 (fun c a w h=>h) (.inl ⟨by simp [Region.wanted,g0],fun w _=>by unfold execOp;simp [h0,e0,Instr.extract]⟩) trivial ?_
 rw [n0]
 refine wpAnyH_take (i:=i1) (oi:=o1) (v:=u) k1 hsel f1 r1 (fun c a w h=>h) (.inl ⟨by simp [Region.wanted,g1],fun w _=>by unfold execOp;simp [h1,e1,Instr.extract]⟩) trivial ?_
 rw [n1]
 refine wpAnyH_ready (rs:=[i2]) r2 (by simp) (AllReadyH.cons (o:=o2) k2 (fun K hK=>?_) AllReadyH.nil)
 rw [if_pos (by simp [Region.wanted,g2])]
 refine wp_store_mid ty p (.tmp d0) h2 b 0 c0.toArray e2 e2' (by rw [List.size_toArray];exact ht) (by rw [List.size_toArray];exact hi) k ?_
 rw [n2]
 refine hK.out _ _ trivial (fun _=>?_)
 refine wpAnyH_ready (rs:=[i3]) r3 (by simp) (AllReadyH.cons (o:=o3) k3 (fun K' hK'=>?_) AllReadyH.nil)
 rw [if_pos (by simp [Region.wanted,g3])]
 unfold Oper.wp execOp
 simp [h3,e3,Oper.upon]
 rw [n3]
 refine hK'.out _ _ trivial (fun _=>?_)
 exact wpAnyH_done r4 (NoPanic.normal hfin) _
end
end Go.Proofs.Ytnkmhbiklffjlaa
set_option maxHeartbeats 8000000
namespace Go.Proofs.Ytnkmhbiklffjlaa
open Go.RowKit Big
open Lib (hid)
theorem wp_region_two {P:Program} {id:Nat} {Q:Exit→Act→World→Prop} {a:Act} {w:World} {o0 o1 o2 o3:Oper} (ty:TypeId) (x0 x1 x2 x3 y2 y3:Operand) (d:TypeDesc) (b0 b1 p2 p3:Nat) (c0 c1:List Value)
  (hm:P.follows .mixedOrders=true) (hsel:Region.noSelect #[o0,o1,o2,o3]=true)
  (f0:Region.free .any #[o0,o1,o2,o3] (Array.replicate 4 false) 0=true) (r0:(Region.ready .any #[o0,o1,o2,o3] (Array.replicate 4 false)).contains 0=true)
  (f1:Region.free .any #[o0,o1,o2,o3] ((Array.replicate 4 false).setIfInBounds 0 true) 1=true) (r1:(Region.ready .any #[o0,o1,o2,o3] ((Array.replicate 4 false).setIfInBounds 0 true)).contains 1=true)
  (r2:Region.ready .any #[o0,o1,o2,o3] (((Array.replicate 4 false).setIfInBounds 0 true).setIfInBounds 1 true)=[2])
  (r3:Region.ready .any #[o0,o1,o2,o3] ((((Array.replicate 4 false).setIfInBounds 0 true).setIfInBounds 1 true).setIfInBounds 2 true)=[3])
  (r4:Region.ready .any #[o0,o1,o2,o3] (((((Array.replicate 4 false).setIfInBounds 0 true).setIfInBounds 1 true).setIfInBounds 2 true).setIfInBounds 3 true)=[])
  (g0:o0.guard=none) (g1:o1.guard=none) (g2:o2.guard=none) (g3:o3.guard=none)
  (h0:o0.op=.load ty x0) (h1:o1.op=.load ty x1) (h2:o2.op=.store ty x2 y2) (h3:o3.op=.store ty x3 y3)
  (hu:P.underlying ty=some d) (hd:d.isRow=true) (hi0:(P.info? ty).map (·.size)=some c0.length) (hi1:(P.info? ty).map (·.size)=some c1.length)
  (k0:c0.toArray.all (·.oneCell')=true) (k1:c1.toArray.all (·.oneCell')=true)
  (e0:a.eval x0=.pointer (some ⟨b0,0,none⟩)) (e1:(a.put o0.dst (.agg c0.toArray)).eval x1=.pointer (some ⟨b1,0,none⟩))
  (e2:((a.put o0.dst (.agg c0.toArray)).put o1.dst (.agg c1.toArray)).eval x2=.pointer (some ⟨p2,0,none⟩)) (e2':((a.put o0.dst (.agg c0.toArray)).put o1.dst (.agg c1.toArray)).eval y2=.agg c0.toArray)
  (e3:(((a.put o0.dst (.agg c0.toArray)).put o1.dst (.agg c1.toArray)).put o2.dst undef).eval x3=.pointer (some ⟨p3,0,none⟩)) (e3':(((a.put o0.dst (.agg c0.toArray)).put o1.dst (.agg c1.toArray)).put o2.dst undef).eval y3=.agg c1.toArray)
  (m0:w.rangeAt b0 0 c0) (m1:w.rangeAt b1 0 c1) (t2:w.there p2 0 c0.length) (t3:w.there p3 0 c1.length)
  (hb1:p2≠b1) (hb0:p2=b0) (hp3:p3=b1∨p3≠b1) (hp30:p3≠b0)
  (hfin:Q .normal ((((a.put o0.dst (.agg c0.toArray)).put o1.dst (.agg c1.toArray)).put o2.dst undef).put o3.dst undef) ((w.drew.setCells p2 0 c0).setCells p3 0 c1)) :
  (Code.region id #[o0,o1,o2,o3] true).wp P Q a w:=by
 have dm:∀ {b:Nat} {cs:List Value},w.rangeAt b 0 cs→w.drew.rangeAt b 0 cs:=fun h j v hv=>h j v hv
 have dt:∀ {b n:Nat},w.there b 0 n→w.drew.there b 0 n:=fun h j hj=>h j hj
 have s2:(w.drew.setCells p2 0 c0).rangeAt b0 0 c0∧(w.drew.setCells p2 0 c0).rangeAt b1 0 c1:=⟨by subst hb0;exact World.rangeAt_setCells_same _ _ _ _ (dt t2),ranges_sets (dm m1) _ _ _ hb1⟩
 have t3':(w.drew.setCells p2 0 c0).there p3 0 c1.length:=there_sets (dt t3) _ _ (by rw [hb0];exact fun h=>hp30 h.symm)
 have s3:((w.drew.setCells p2 0 c0).setCells p3 0 c1).rangeAt b0 0 c0∧((w.drew.setCells p2 0 c0).setCells p3 0 c1).rangeAt b1 0 c1:=by
  refine ⟨ranges_sets s2.1 _ _ _ hp30,?_⟩
  rcases hp3 with h|h
  ·subst h;exact World.rangeAt_setCells_same _ _ _ _ t3'
  ·exact ranges_sets s2.2 _ _ _ h
 refine wp_region_noPanic ?_
 have hQ:∀ c (a:Act) (d:Option Tmp) (v:Value) (w:World),NoPanic Q (.panic c) (a.put d v) w→NoPanic Q (.panic c) a w:=fun _ _ _ _ _ h=>h
 refine wp_region_held_drew (S:=fun W=>W.rangeAt b0 0 c0∧W.rangeAt b1 0 c1) hm ⟨dm m0,dm m1⟩ (fun hS=>?_)
 refine wpAnyH_take (i:=0) (oi:=o0) (v:=.agg c0.toArray) rfl hsel f0 r0 (fun c a w h=>hQ _ _ _ _ _ h) (yieldsIf_load_mid (by simp [Region.wanted,g0]) ty x0 h0 b0 0 e0 c0 d (fun _ h=>h.1) hu hd hi0) hS ?_
 refine wpAnyH_take (i:=1) (oi:=o1) (v:=.agg c1.toArray) rfl hsel f1 r1 (fun c a w h=>hQ _ _ _ _ _ h) (yieldsIf_load_mid (by simp [Region.wanted,g1]) ty x1 h1 b1 0 e1 c1 d (fun _ h=>h.2) hu hd hi1) hS ?_
 refine wpAnyH_ready (rs:=[2]) r2 (by simp) (AllReadyH.cons (o:=o2) rfl (fun K hK=>?_) AllReadyH.nil)
 rw [if_pos (by simp [Region.wanted,g2])]
 refine wp_store_mid ty x2 y2 h2 p2 0 c0.toArray e2 e2' (by rw [List.size_toArray];exact dt t2) (by rw [List.size_toArray];exact hi0) k0 ?_
 refine hK.out _ _ s2 (fun hS2=>?_)
 refine wpAnyH_ready (rs:=[3]) r3 (by simp) (AllReadyH.cons (o:=o3) rfl (fun K' hK'=>?_) AllReadyH.nil)
 rw [if_pos (by simp [Region.wanted,g3])]
 refine wp_store_mid ty x3 y3 h3 p3 0 c1.toArray e3 e3' (by rw [List.size_toArray];exact t3') (by rw [List.size_toArray];exact hi1) k1 ?_
 refine hK'.out _ _ s3 (fun hS3=>?_)
 exact wpAnyH_done r4 (NoPanic.normal hfin) _
theorem frozen_sets {b:Nat} (a:Addr):∀ (vs:List Value) (o:Nat) (w:World),(w.setCells b o vs).frozen? a=w.frozen? a
 | [],_,_=>rfl
 | v::vs,o,w=>(frozen_sets a vs (o+1) (w.setCell ⟨b,o,none⟩ v)).trans (World.frozen?_setCell _ _ _ _)
theorem own_stored {w:World} {b v u:Nat} (h:qMO w b 0 32 u):qMO (w.setCells b 0 (lv 32 v)) b 0 32 v:=⟨stored_mag h,fun j hj=>by rw [frozen_sets];exact h.2 j hj⟩
theorem own_sets {w:World} {b n v:Nat} (h:qMO w b 0 n v) (vs:List Value) (b2:Nat) (hb:b2≠b):qMO (w.setCells b2 0 vs) b 0 n v:=⟨ranges_sets h.1 vs b2 0 hb,fun j hj=>by rw [frozen_sets];exact h.2 j hj⟩
theorem size_sets {b:Nat}:∀ (vs:List Value) (o:Nat) (w:World),(w.setCells b o vs).heap.size=w.heap.size
 | [],_,_=>rfl
 | v::vs,o,w=>(size_sets vs (o+1) (w.setCell ⟨b,o,none⟩ v)).trans (by simp)
theorem built_int1 (cs:List Value) (h:cs.length=32):Try.prog.built 51 [(1,.agg cs.toArray)]=some (Value.bool false::cs).toArray :=
 match cs,h with
 | [c0,c1,c2,c3,c4,c5,c6,c7,c8,c9,c10,c11,c12,c13,c14,c15,c16,c17,c18,c19,c20,c21,c22,c23,c24,c25,c26,c27,c28,c29,c30,c31],_=>by kernel_rfl
theorem divide_big (a b:Nat) (w:World) (ha:a<BB^32) (hb:b<BB^32) (h0:b≠0) (hbig:¬(a<BB^2∧b<BB^2)) :
  Calls Try.prog 53 #[mV a,mV b] w fun e w'=>e=.returned (.tuple #[mV (a / b),mV (a%b)])∧Below w.heap.size w w':=by
 obtain ⟨N,hN32,hN⟩:=qLE a 32 ha
 obtain ⟨K,hK32,hK⟩:=qLE b 32 hb
 have hNK:¬(N≤2∧K≤2):=fun h=>hbig ⟨Nat.lt_of_lt_of_le hN.1 (Nat.pow_le_pow_right BB_pos h.1),Nat.lt_of_lt_of_le hK.1 (Nat.pow_le_pow_right BB_pos h.2)⟩
 obtain ⟨mA,hmA⟩:=is_bits_exists a
 obtain ⟨mB,hmB⟩:=is_bits_exists b
 obtain ⟨nB,hnB⟩:∃ nB,mB=nB+1:=by
  rcases mB with _|n
  ·have:=hmB.1;simp at this;omega
  ·exact ⟨n,rfl⟩
 subst hnB
 have hmA2:mA≤1024:=bits_bp 32 ha hmA
 have hnB2:nB+1≤1024:=bits_bp 32 hb hmB
 obtain ⟨q,hq⟩:∃ q,q=a / b:=⟨_,rfl⟩
 obtain ⟨r,hr⟩:∃ r,r=a%b:=⟨_,rfl⟩
 obtain ⟨w0,hw0,hb0,hs0,hA,hB,hQ,hR⟩:=box_four w a b 49
 have HLA:=hid (fun W=>limbs_is a N W ha hN)
 have HLB:=hid (fun W=>limbs_is b K W hb hK)
 have HTA:=hid (fun W=>bits_is false a mA W ha hmA)
 have HTB:=hid (fun W=>bits_is false b (nB+1) W hb hmB)
 have HW:=hid hb0
 have HNUM:=hid (And.intro ha (And.intro hb (And.intro h0 (And.intro hmA hmB))))
 have HQR:=hid (And.intro hq hr)
 rw [lv_zero] at hw0
 rw [←hq,←hr]
 unfold mV
 unfold iV at HTA HTB
 obtain ⟨ca,hca⟩:∃ ca,ca=lv 32 a:=⟨_,rfl⟩
 obtain ⟨cb,hcb⟩:∃ cb,cb=lv 32 b:=⟨_,rfl⟩
 obtain ⟨vq,hvq⟩:∃ vq,vq=(lv 32 q).toArray:=⟨_,rfl⟩
 obtain ⟨vr,hvr⟩:∃ vr,vr=(lv 32 r).toArray:=⟨_,rfl⟩
 have HVQ:=hid hvq
 have HVR:=hid hvr
 have HCA:=hid hca
 have HCB:=hid hcb
 have HLX:=hid (fun W (cs:List Value) (n:Nat) (h:(cs=ca∧n=N)∨(cs=cb∧n=K))=>show Calls Try.prog 46 #[.agg cs.toArray] W (fun e w'=>e=.returned (.int .i64 n)∧Below W.heap.size W w') by
  rcases h with ⟨h1,h2⟩|⟨h1,h2⟩
  ·rw [h1,h2,hca];exact HLA.out W
  ·rw [h1,h2,hcb];exact HLB.out W)
 have HTX:=hid (fun W (cs:List Value) (n:Nat) (h:(cs=ca∧n=mA)∨(cs=cb∧n=nB+1))=>show Calls Try.prog 50 #[.agg (Value.bool false::cs).toArray] W (fun e w'=>e=.returned (.int .i64 n)∧Below W.heap.size W w') by
  rcases h with ⟨h1,h2⟩|⟨h1,h2⟩
  ·rw [h1,h2,hca];exact HTA.out W
  ·rw [h1,h2,hcb];exact HTB.out W)
 have lca:ca.length=32:=by rw [hca,qlL]
 have lcb:cb.length=32:=by rw [hcb,qlL]
 have HRA:=hid (show w0.rangeAt w.heap.size 0 ca by rw [hca];exact hA)
 have HRB:=hid (show w0.rangeAt (w.heap.size+1) 0 cb by rw [hcb];exact hB)
 have HQ:=hid hQ
 have HR:=hid hR
 have sz:∀ cs:List Value,cs.length=32→(Try.prog.info? 49).map (·.size)=some cs.length:=fun cs h=>by rw [h];exact Try.infoM
 have HSZ:=hid sz
 have HLEN:=hid (And.intro lca lcb)
 have HU:=hid Try.underlying49
 rw [←hca,←hcb] at hw0 ⊢
 rw [←hvq,←hvr]
 obtain ⟨va,hva⟩:∃ va,va=ca.toArray:=⟨_,rfl⟩
 obtain ⟨vb,hvb⟩:∃ vb,vb=cb.toArray:=⟨_,rfl⟩
 rw [←hva,←hvb] at hw0 ⊢
 clear hN hK hN32 hK32 hb0 hA hB hQ hR hca hcb lca lcb sz ha hb hq hr hva hvb h0 hvq hvr hmA hmB hbig
 go_enter Try.func53,Try.ntmps53
 go_upto_region 1 with fail
 rw [←hw0]
 obtain ⟨B0,hB0⟩:∃ B0,B0=w.heap.size:=⟨_,rfl⟩
 have HBE:=hid hB0
 rw [←hB0] at HRA HRB HQ HR hs0 ⊢
 clear hw0 hB0
 go_cut [17] from 10 to 16 (fun p wx=>p=.bool false∧Below w0.heap.size w0 wx)
 case first =>
  go_wp2_with (first
   | (refine wpList_load_mid rfl _ _ rfl B0 0 rfl ca _ HRA.out HU.out rfl (HSZ.out _ HLEN.out.1) ?_))
  refine (HLX.out _ _ _ (.inl ⟨rfl,rfl⟩)).mono ?_
  rintro e w1 ⟨rfl,hb1⟩
  by_cases hN2:(N:Int)≤2
  ·have hK2:¬(K:Int)≤2:=by omega
   have HRB1:=hid (ranges_up HRB.out hb1)
   have HB1:=hid hb1
   clear hb1 hNK
   go_wp2_with (first
    | (refine wpList_load_guard (by rfl) _ _ rfl (B0+1) 0 rfl cb _ HRB1.out HU.out rfl (HSZ.out _ HLEN.out.2) ?_))
   refine (HLX.out _ _ _ (.inr ⟨rfl,rfl⟩)).mono ?_
   rintro e w2 ⟨rfl,hb2⟩
   have hb12:=HB1.out.trans (hb2.mono HB1.out.size)
   clear hb2
   go_wp2_with fail
   go_meet
   exact ⟨congrArg Value.bool (decide_eq_false (by omega)),hb12⟩
  ·clear hNK
   go_wp2_with fail
   go_meet
   exact ⟨rfl,hb1⟩
 case rest =>
  obtain ⟨rfl,hb1⟩:=hcut
  have hs1:B0+1+1+1+1≤wc.heap.size:=by have:=hb1.size;omega
  have ra:=ranges_up HRA.out hb1
  have rb:=ranges_up HRB.out hb1
  have HQ1:=hid (HQ.out.up hb1 (by omega))
  have HR1:=hid (HR.out.up hb1 (by omega))
  have HW1:=hid (HW.out.trans (hb1.mono HW.out.size))
  have sa:=HSZ.out _ HLEN.out.1
  have sb:=HSZ.out _ HLEN.out.2
  have u49:=HU.out
  clear hb1 hNK
  go_upto_region 3 with fail
  refine wp_region_below (by kernel_rfl) (by kernel_rfl) ?_
  repeat (first
   | (refine wpQuiet_load_mid rfl _ _ rfl B0 0 rfl ca _ ra u49 rfl sa ?_;try simp only [Act.put,List.setIfInBounds_toArray,List.set_cons_zero,List.set_cons_succ])
   | (refine wpQuiet_load_mid rfl _ _ rfl (B0+1) 0 rfl cb _ rb u49 rfl sb ?_;try simp only [Act.put,List.setIfInBounds_toArray,List.set_cons_zero,List.set_cons_succ])
   | (refine wqB rfl _ _ rfl _ rfl _ (built_int1 _ HLEN.out.1) ?_;try simp only [Act.put,List.setIfInBounds_toArray,List.set_cons_zero,List.set_cons_succ])
   | (refine wqB rfl _ _ rfl _ rfl _ (built_int1 _ HLEN.out.2) ?_;try simp only [Act.put,List.setIfInBounds_toArray,List.set_cons_zero,List.set_cons_succ])
   | go_big_quiet_step ((go_at_call 50;exact Calls.below_of (HTX.out _ _ _ (by first|exact .inl ⟨rfl,rfl⟩|exact .inr ⟨rfl,rfl⟩)))))
  refine wpQuiet_nil ?_
  intro w' hw'
  obtain ⟨p,rfl⟩:=hw'
  have hbg:=qbG wc p.d p.os
  obtain ⟨w3,hw3⟩:∃ w3,w3=gw wc p.d p.os:=⟨_,rfl⟩
  rw [←hw3] at hbg ⊢
  have ra3:=ranges_up ra hbg
  have rb3:=ranges_up rb hbg
  have HQ3:=hid (HQ1.out.up hbg (by omega))
  have HR3:=hid (HR1.out.up hbg (by omega))
  have HW3:=hid (HW1.out.trans (hbg.mono HW1.out.size))
  have hs3:B0+1+1+1+1≤w3.heap.size:=by have:=hbg.size;omega
  clear hbg hw3 ra rb
  by_cases hmn:mA≤nB
  ·-- the divisor is the greater
   have hlt:=bits_less HNUM.out.2.2.2.1 HNUM.out.2.2.2.2 hmn
   have hq0:q=0:=by rw [HQR.out.1];exact Nat.div_eq_of_lt hlt
   have hra:r=a:=by rw [HQR.out.2];exact Nat.mod_eq_of_lt hlt
   obtain ⟨cq,hcq⟩:∃ cq,cq=lv 32 0:=⟨_,rfl⟩
   have HVQ2:=hid (show vq=cq.toArray by rw [HVQ.out,hq0,hcq])
   have HVR2:=hid (show vr=ca.toArray by rw [HVR.out,hra,HCA.out])
   have hrq:w3.rangeAt (B0+1+1) 0 cq:=by rw [hcq];exact HQ3.out.1
   have HONE:=hid (And.intro (show cq.toArray.all (·.oneCell')=true by rw [hcq];exact all_oneCell_toArray (lv_one 32 0)) (show ca.toArray.all (·.oneCell')=true by rw [HCA.out];exact all_oneCell_toArray (lv_one 32 a)))
   have lcq:cq.length=32:=by rw [hcq,qlL]
   have hq3:=HQ3.out.there
   have hr3:=HR3.out.there
   have sq:=HSZ.out _ lcq
   clear hcq hlt hq0 hra
   go_upto_region 5 with fail
   refine wp_region_two 49 _ _ _ _ _ _ _ (B0+1+1) B0 (B0+1+1) (B0+1+1+1) cq ca (by kernel_rfl) (by kernel_rfl) (by kernel_rfl) (by kernel_rfl) (by kernel_rfl) (by kernel_rfl) (by kernel_rfl) (by kernel_rfl) (by kernel_rfl) rfl rfl rfl rfl rfl rfl rfl rfl u49 rfl sq sa HONE.out.1 HONE.out.2 rfl rfl rfl rfl rfl rfl hrq ra3
    (by rw [lcq];exact hq3) (by rw [HLEN.out.1];exact hr3) (by omega) rfl (.inr (by omega)) (by omega) ?_
   simp only [Act.put,List.setIfInBounds_toArray,List.set_cons_zero,List.set_cons_succ]
   have hle2:w.heap.size≤B0+1+1:=by rw [←HBE.out];omega
   have hle3:w.heap.size≤B0+1+1+1:=by omega
   have HWE:=hid (below_sets hle3 ca 0 _ (below_sets hle2 cq 0 _ (below_drew HW3.out)))
   have g1:=World.rangeAt_setCells_same w3.drew (B0+1+1) 0 cq (by rw [lcq];exact hq3)
   have g2:=ranges_sets g1 ca (B0+1+1+1) 0 (by omega)
   have g3:=World.rangeAt_setCells_same (w3.drew.setCells (B0+1+1) 0 cq) (B0+1+1+1) 0 ca (by rw [HLEN.out.1];exact there_sets (b2:=B0+1+1) (show w3.drew.there (B0+1+1+1) 0 32 from fun j hj=>hr3 j hj) cq 0 (by omega))
   go_wp2_with fail
   have hld1:=run_loadVar_mid (P:=Try.prog) _ _ _ _ _ _ g2 Try.underlying49 rfl sq
   have hld2:=run_loadVar_mid (P:=Try.prog) _ _ _ _ _ _ g3 Try.underlying49 rfl sa
   refine bodyPost_ret (v:=.tuple #[.agg cq.toArray,.agg ca.toArray]) (by simp [results,Try.results53,asAddr,hld1,hld2]) rfl ?_
   exact ⟨by rw [HVQ2.out,HVR2.out],HWE.out⟩
  ·obtain ⟨d,hd⟩:∃ d,d=mA - nB:=⟨_,rfl⟩
   have hsub:(mA:Int) - (nB:Int)=(d:Int):=by omega
   have hle:¬(mA:Int)≤(nB:Int):=by omega
   have hd2:d≤1024:=by omega
   have hd1:0<d:=by omega
   have HRB:=hid (show a / 2^d<b by rw [hd];exact bits_div HNUM.out.2.2.2.1 HNUM.out.2.2.2.2 (by omega))
   obtain ⟨r1,hr1⟩:∃ r1,r1=a / 2^d:=⟨_,rfl⟩
   rw [←hr1] at HRB
   have hr1b:r1<BB^32:=Nat.lt_trans HRB.out HNUM.out.2.1
   have HSH:=hid (fun W=>shifted_is a d W HNUM.out.1 hd2)
   rw [←hr1] at HSH
   unfold mV at HSH
   rw [←HCA.out] at HSH
   obtain ⟨c1,hc1⟩:∃ c1,c1=lv 32 r1:=⟨_,rfl⟩
   rw [←hc1] at HSH
   have HC1:=hid hc1
   have HONE1:=hid (show c1.toArray.all (·.oneCell')=true by rw [hc1];exact all_oneCell_toArray (lv_one 32 r1))
   have HLEN1:=hid (show c1.length=32 by rw [hc1,qlL])
   have HR1E:=hid hr1
   clear hc1 hr1 hmn hd
   go_wp2_with (first
    | (refine wpList_load_mid rfl _ _ rfl B0 0 rfl ca _ ra3 u49 rfl sa ?_))
   refine (HSH.out _).mono ?_
   rintro e w4 ⟨rfl,hb4⟩
   have ra4:=ranges_up ra3 hb4
   have rb4:=ranges_up rb3 hb4
   have hq4:=HQ3.out.up hb4 (by omega)
   have hr4:=HR3.out.up hb4 (by omega)
   have hs4:B0+1+1+1+1≤w4.heap.size:=by have:=hb4.size;omega
   have hW4:=HW3.out.trans (hb4.mono HW3.out.size)
   have HTH:=hid (show w4.there (B0+1+1+1) 0 c1.toArray.size by rw [List.size_toArray,HLEN1.out];exact hr4.there)
   have HSA:=hid (show (Try.prog.info? 49).map (·.size)=some c1.toArray.size by rw [List.size_toArray];exact HSZ.out _ HLEN1.out)
   obtain ⟨w5,hw5⟩:∃ w5,w5=w4.setCells (B0+1+1+1) 0 c1:=⟨_,rfl⟩
   have hle3:w.heap.size≤B0+1+1+1:=by rw [←HBE.out];omega
   have HRA5:=hid (show w5.rangeAt B0 0 ca by rw [hw5];exact ranges_sets ra4 _ _ _ (by omega))
   have HRB5:=hid (show w5.rangeAt (B0+1) 0 cb by rw [hw5];exact ranges_sets rb4 _ _ _ (by omega))
   have HQ5:=hid (show qMO w5 (B0+1+1) 0 32 0 by rw [hw5];exact own_sets hq4 _ _ (by omega))
   have HR5:=hid (show qMO w5 (B0+1+1+1) 0 32 r1 by rw [hw5,HC1.out];exact own_stored hr4)
   have HW5:=hid (show Below w.heap.size w w5 by rw [hw5];exact below_sets hle3 c1 0 _ hW4)
   have hs5:B0+1+1+1+1≤w5.heap.size:=by rw [hw5,size_sets];exact hs4
   have HW5E:=hid hw5
   clear hb4 ra4 rb4 hq4 hr4 hW4 hw5
   go_upto_region 7 with (refine wpList_store_mid rfl _ _ _ rfl (B0+1+1+1) 0 _ rfl rfl HTH.out HSA.out HONE1.out ?_)
   try simp only [Act.put,List.setIfInBounds_toArray,List.set_cons_zero,List.set_cons_succ]
   try simp only [List.toList_toArray]
   rw [←HW5E.out]
   clear ra3 rb3 HQ3 HR3 HW3 HRA HTH HSA HW5E
   go_wp2_with fail
   go_loopg [8,9] d (fun g iv cv wr=>∃ (Q rr:Nat) (z:Int),(g:Int)=z+1∧-1≤z∧z≤1023∧a / 2^g=Q*b+rr∧rr<b∧iv=.int .i64 z∧wr.rangeAt B0 0 ca∧wr.rangeAt (B0+1) 0 cb∧qMO wr (B0+1+1) 0 32 (Q*2^g)∧qMO wr (B0+1+1+1) 0 32 rr∧Below w.heap.size w wr∧B0+1+1+1+1≤wr.heap.size)
   case atStart=>exact ⟨0,r1,(d:Int) - 1,by omega,by omega,by omega,by rw [Nat.zero_mul,Nat.zero_add];exact HR1E.out.symm,HRB.out,rfl,HRA5.out,HRB5.out,by rw [Nat.zero_mul];exact HQ5.out,HR5.out,HW5.out,hs5⟩
   case round =>
    obtain ⟨Q,rr,z,hg,hz1,hz2,hdiv,hrb,rfl,ra6,rb6,hQ6,hR6,hW6,hs6⟩:=hrel
    clear HRA5 HRB5 HQ5 HR5 HW5 hs5 hs3 hs1 HSH HC1 HONE1 HLEN1 HR1E hsub hle
    by_cases hz:0≤z
    ·obtain ⟨i,rfl⟩:∃ i:Nat,z=i:=⟨z.toNat,by omega⟩
     have hgi:gk=i+1:=by omega
     obtain ⟨c,hc⟩:∃ c,c=a / 2^i%2:=⟨_,rfl⟩
     have hc1:c≤1:=by omega
     obtain ⟨t,ht⟩:∃ t,t=2*rr+c:=⟨_,rfl⟩
     obtain ⟨v,hv⟩:∃ v,v=t%BB^32:=⟨_,rfl⟩
     obtain ⟨c2,hc2⟩:∃ c2,c2=t / BB^32:=⟨_,rfl⟩
     have hvc:2*rr+c=v+c2*BB^32:=by rw [←ht,hv,hc2,Nat.mul_comm];exact (Nat.mod_add_div t (BB^32)).symm
     have hvb:v<BB^32:=by rw [hv];exact Nat.mod_lt _ (BP 32)
     have hrr:rr<BB^32:=Nat.lt_trans hrb HNUM.out.2.1
     obtain ⟨ov,hov⟩:∃ ov,ov=decide (c2=1):=⟨_,rfl⟩
     have HDB:=hid (fun W=>double_is rr c v c2 W hrr hc1 hvb hvc)
     rw [←hov] at HDB
     unfold mV at HDB
     obtain ⟨cr,hcr⟩:∃ cr,cr=lv 32 rr:=⟨_,rfl⟩
     obtain ⟨cv,hcv⟩:∃ cv,cv=lv 32 v:=⟨_,rfl⟩
     rw [←hcr,←hcv] at HDB
     have hk32:i / 32<32:=by omega
     have hx6:=(show MagAt wr B0 0 32 a by have:=ra6;rw [HCA.out] at this;exact this).get hk32
     have hQm:(Q*2^(i+1))%2^(i+1)=0:=Nat.mul_mod_left _ _
     obtain ⟨y,hy⟩:∃ y,y=2^(i%32):=⟨_,rfl⟩
     have hset:=set_bit hQm hy
     have hbw:=bit_word (s:=i%32) (by omega)
     rw [←hy] at hbw
     have hbl:=bit_lim a i
     rw [←hc,←hy] at hbl
     rw [hgi] at hQ6 hdiv
     have hst:=div_step hdiv hrb
     rw [←hc,←ht] at hst
     obtain ⟨k,hk⟩:∃ k,k=i / 32:=⟨_,rfl⟩
     obtain ⟨s,hs⟩:∃ s,s=i%32:=⟨_,rfl⟩
     rw [←hk] at hk32 hx6 hset hbl
     rw [←hs] at hy hbw
     have hs32:s<32:=by omega
     have hi1:(i:Int) / 32=(k:Int):=by omega
     have hi2:(i:Int)%32=(s:Int):=by omega
     have hi3:IntKind.u64.wrap (s:Int)=(s:Int):=by rw [IntKind.wrap_u64];omega
     obtain ⟨x,hx⟩:∃ x,x=lim a k:=⟨_,rfl⟩
     have hxl:x<BB:=hx ▸ lim_lt a k
     rw [←hx] at hx6 hbl
     rw [Nat.zero_add] at hx6
     obtain ⟨x2,hx2⟩:∃ x2,x2=x / y:=⟨_,rfl⟩
     have hsh:(x:Int) / 2^s=(x2:Int):=by rw [hx2,hy];simp
     have hx2l:x2<BB:=by rw [hx2];exact Nat.lt_of_le_of_lt (Nat.div_le_self _ _) hxl
     have hand:=and_one hx2l
     rw [hx2,hbl,←hx2] at hand
     have hcell:=fun p os=>cell_gw hx6 p os
     have hr6:wr.rangeAt (B0+1+1+1) 0 cr:=by rw [hcr];exact hR6.1
     have lcr:cr.length=32:=by rw [hcr,qlL]
     have sr:=HSZ.out _ lcr
     have HST:=hid hst
     have HSET:=hid hset
     have HBW:=hid hbw
     have HQ6:=hid hQ6
     have HR6:=hid hR6
     have HW6:=hid hW6
     have HRA6:=hid ra6
     have HRB6:=hid rb6
     have HVC:=hid (And.intro hvc (And.intro hvb (And.intro hrb ht)))
     have HOV:=hid (And.intro hov hcv)
     have HIK:=hid (And.intro hk (And.intro hs hy))
     have HGI:=hid hgi
     clear hc hv hc2 hvc hvb hrr hov hcr hcv hx6 hQm hset hbw hbl hdiv hst hx hx2 hxl hx2l hQ6 hR6 hW6 ra6 rb6 ht hrb hk hs hy hgi hz1 hg
     go_upto_region 11 with fail
     have lcv:cv.length=32:=by rw [HOV.out.2,qlL]
     have kcv:cv.toArray.all (·.oneCell')=true:=by rw [HOV.out.2];exact all_oneCell_toArray (lv_one 32 v)
     have sv:=HSZ.out _ lcv
     refine wp_region_below_any 12 #[true,true,true,true,true,true,true,true,true,true,true,true,false,false,false,false] (fun _=>True) (by kernel_rfl) (by kernel_rfl) ?_
     simp only [List.take_succ_cons,List.take_zero]
     refine wpQuiet_load_mid rfl _ _ rfl (B0+1+1+1) 0 rfl cr _ hr6 u49 rfl sr ?_
     simp only [Act.put,List.setIfInBounds_toArray,List.set_cons_zero,List.set_cons_succ]
     repeat (go_big_quiet_step ((go_at_call 67;exact Calls.below_of (HDB.out _))))
     refine wpQuiet_nil ?_
     intro w' hw'
     obtain ⟨p7,rfl⟩:=hw'
     have hbg:=qbG wr p7.d p7.os
     obtain ⟨w7,hw7⟩:∃ w7,w7=gw wr p7.d p7.os:=⟨_,rfl⟩
     rw [←hw7] at hbg ⊢
     have hs7:B0+1+1+1+1≤w7.heap.size:=by have:=hbg.size;omega
     have ra7:=ranges_up HRA6.out hbg
     have rb7:=ranges_up HRB6.out hbg
     have hq7:=HQ6.out.up hbg (by omega)
     have hr7:=HR6.out.up hbg (by omega)
     have hW7:=HW6.out.trans (hbg.mono HW6.out.size)
     clear hbg hw7 HRA6 HRB6 HQ6 HR6 HW6 hcell hr6 hsh hand
     have ht7:w7.there (B0+1+1+1) 0 cv.length:=by rw [lcv];exact hr7.there
     refine tail_pair 12 13 14 15 67 68 9 49 _ _ (B0+1+1+1) cv (.bool ov) rfl rfl rfl rfl (by kernel_rfl) (by kernel_rfl) (by kernel_rfl) (by kernel_rfl) (by kernel_rfl) (by kernel_rfl) (by kernel_rfl) (by kernel_rfl) rfl rfl rfl rfl rfl rfl rfl rfl rfl rfl rfl rfl rfl rfl rfl rfl rfl ht7 sv kcv ?_
     simp only [Act.put,List.setIfInBounds_toArray,List.set_cons_zero,List.set_cons_succ]
     obtain ⟨w8,hw8⟩:∃ w8,w8=w7.setCells (B0+1+1+1) 0 cv:=⟨_,rfl⟩
     have hle3:w.heap.size≤B0+1+1+1:=by rw [←HBE.out];omega
     have hle2:w.heap.size≤B0+1+1:=by rw [←HBE.out];omega
     have HRA8:=hid (show w8.rangeAt B0 0 ca by rw [hw8];exact ranges_sets ra7 _ _ _ (by omega))
     have HRB8:=hid (show w8.rangeAt (B0+1) 0 cb by rw [hw8];exact ranges_sets rb7 _ _ _ (by omega))
     have HQ8:=hid (show qMO w8 (B0+1+1) 0 32 (Q*2^(i+1)) by rw [hw8];exact own_sets hq7 _ _ (by omega))
     have HR8:=hid (show qMO w8 (B0+1+1+1) 0 32 v by rw [hw8,HOV.out.2];exact own_stored hr7)
     have HW8:=hid (show Below w.heap.size w w8 by rw [hw8];exact below_sets hle3 cv 0 _ hW7)
     have hs8:B0+1+1+1+1≤w8.heap.size:=by rw [hw8,size_sets];exact hs7
     have hcv8:w8.rangeAt (B0+1+1+1) 0 cv:=by rw [HOV.out.2];exact HR8.out.1
     have HCV8:=hid hcv8
     rw [←hw8]
     clear hw8 ra7 rb7 hq7 hr7 hW7 ht7 hs7 hcv8
     have HI:=hid (And.intro hi1 (And.intro hi2 hi3))
     clear hi1 hi2 hi3
     by_cases hbt:b≤t
     ·obtain ⟨x',hx'⟩:∃ x',x'=t - b:=⟨_,rfl⟩
      have hxb:x'+b=v+c2*BB^32:=by rw [←HVC.out.1,←HVC.out.2.2.2,hx'];omega
      have hstp:=HST.out.1 hbt
      rw [←hx'] at hstp
      have HDF:=hid (fun W=>difference_is v b x' W HVC.out.2.1 HNUM.out.2.1 (Nat.lt_trans hstp.2 HNUM.out.2.1) ⟨c2,hxb⟩)
      unfold mV at HDF
      rw [←HOV.out.2,←HCB.out] at HDF
      obtain ⟨cx,hcx⟩:∃ cx,cx=lv 32 x':=⟨_,rfl⟩
      rw [←hcx] at HDF
      have HCX:=hid hcx
      have HSTP:=hid hstp
      have HCMP:=hid (fun W=>compare_is v b W HVC.out.2.1 HNUM.out.2.1)
      unfold mV at HCMP
      rw [←HOV.out.2,←HCB.out] at HCMP
      have HGE:=hid (show ov=false→0≤cmpI v b by
       intro h
       have h1:¬c2=1:=by have:=HOV.out.1;rw [h] at this;exact of_decide_eq_false this.symm
       have h2:c2<2:=by
        rcases Nat.lt_or_ge c2 2 with h2|h2
        ·exact h2
        ·have:=Nat.mul_le_mul_right (BB^32) h2
         have h5:=HVC.out.1
         have h6:=HVC.out.2.2.1
         have h7:=HNUM.out.2.1
         have h8:=BP 32
         omega
       have h3:c2=0:=by omega
       have h4:=HVC.out.1
       rw [←HVC.out.2.2.2,h3] at h4
       have h5:¬v<b:=by omega
       unfold cmpI
       rw [if_neg h5]
       split<;>omega)
      clear hcx hstp hxb hx' hbt
      go_upto_region 12 with fail
      go_cut [75] from 69 to 74 (fun pk wx=>pk=.bool true∧Below w8.heap.size w8 wx)
      case first =>
       cases ov with
       | true =>
        go_wp2_with fail
        go_meet
        exact ⟨rfl,Below.refl _ _⟩
       | false =>
        have hge:=HGE.out rfl
        obtain ⟨cm,hcm⟩:∃ cm,cm=cmpI v b:=⟨_,rfl⟩
        rw [←hcm] at HCMP hge
        clear hcm
        go_wp2_with (first
         | (refine wpList_load_guard (by rfl) _ _ rfl (B0+1+1+1) 0 rfl cv _ HCV8.out u49 rfl sv ?_)
         | (refine wpList_load_guard (by rfl) _ _ rfl (B0+1) 0 rfl cb _ HRB8.out u49 rfl sb ?_))
        refine (HCMP.out _).mono ?_
        rintro e w9 ⟨rfl,hb9⟩
        go_wp2_with fail
        go_meet
        exact ⟨rfl,hb9⟩
      case rest =>
       obtain ⟨rfl,hb9⟩:=hcut
       have ra9:=ranges_up HRA8.out hb9
       have rb9:=ranges_up HRB8.out hb9
       have hq9:=HQ8.out.up hb9 (by omega)
       have hr9:=HR8.out.up hb9 (by omega)
       have hW9:=HW8.out.trans (hb9.mono HW8.out.size)
       have hs9:B0+1+1+1+1≤wc.heap.size:=by have:=hb9.size;omega
       have hcv9:=ranges_up HCV8.out hb9
       have HRA9:=hid ra9
       have HRB9:=hid rb9
       have HQ9:=hid hq9
       have HR9:=hid hr9
       have HW9:=hid hW9
       have HCV9:=hid hcv9
       have HSV:=hid sv
       clear hb9 ra9 rb9 hq9 hr9 hW9 hcv9 HRA8 HRB8 HQ8 HR8 HW8 HCV8 hs8 HCMP HGE
       go_wp2_with (first
        | (refine wpList_load_mid rfl _ _ rfl (B0+1+1+1) 0 rfl cv _ HCV9.out u49 rfl HSV.out ?_)
        | (refine wpList_load_mid rfl _ _ rfl (B0+1) 0 rfl cb _ HRB9.out u49 rfl sb ?_))
       refine (HDF.out _).mono ?_
       rintro e wd ⟨rfl,hbd⟩
       have hqd:=HQ9.out.up hbd (by omega)
       have hrd:=HR9.out.up hbd (by omega)
       have rad:=ranges_up HRA9.out hbd
       have rbd:=ranges_up HRB9.out hbd
       have hWd:=HW9.out.trans (hbd.mono HW9.out.size)
       have hsd:B0+1+1+1+1≤wd.heap.size:=by have:=hbd.size;omega
       have lcx:cx.length=32:=by rw [HCX.out,qlL]
       have HTH:=hid (show wd.there (B0+1+1+1) 0 cx.toArray.size by rw [List.size_toArray,lcx];exact hrd.there)
       have HSA:=hid (show (Try.prog.info? 49).map (·.size)=some cx.toArray.size by rw [List.size_toArray];exact HSZ.out _ lcx)
       have HONX:=hid (show cx.toArray.all (·.oneCell')=true by rw [HCX.out];exact all_oneCell_toArray (lv_one 32 x'))
       obtain ⟨wf,hwf⟩:∃ wf,wf=wd.setCells (B0+1+1+1) 0 cx:=⟨_,rfl⟩
       have HRAf:=hid (show wf.rangeAt B0 0 ca by rw [hwf];exact ranges_sets rad _ _ _ (by omega))
       have HRBf:=hid (show wf.rangeAt (B0+1) 0 cb by rw [hwf];exact ranges_sets rbd _ _ _ (by omega))
       have hqf:qMO wf (B0+1+1) 0 32 (Q*2^(i+1)):=by rw [hwf];exact own_sets hqd _ _ (by omega)
       have HRf:=hid (show qMO wf (B0+1+1+1) 0 32 x' by rw [hwf,HCX.out];exact own_stored hrd)
       have HWf:=hid (show Below w.heap.size w wf by rw [hwf];exact below_sets hle3 cx 0 _ hWd)
       have hsf:B0+1+1+1+1≤wf.heap.size:=by rw [hwf,size_sets];exact hsd
       have HWFE:=hid hwf
       have hset:=HSET.out
       obtain ⟨L,hL⟩:∃ L,L=lim (Q*2^(i+1)) k:=⟨_,rfl⟩
       rw [←hL] at hset
       have cq:=hqf.1.get hk32
       have fq:=hqf.2 k hk32
       rw [Nat.zero_add] at cq fq
       rw [←hL] at cq
       obtain ⟨D,hD⟩:∃ D,D=L+y:=⟨_,rfl⟩
       rw [←hD] at hset
       have HQf:=hid (show qMO (wf.setCell ⟨B0+1+1,k,none⟩ (.int .u32 (D:Nat))) (B0+1+1) 0 32 ((2*Q+1)*2^i) by
        have:=hqf.set hk32 hset.2.1
        rw [Nat.zero_add,hset.2.2] at this
        rwa [show Q*2^(i+1)+2^i=(2*Q+1)*2^i by rw [Nat.pow_succ,Nat.add_mul,Nat.one_mul,Nat.mul_comm 2 Q,Nat.mul_assoc,Nat.mul_comm (2^i) 2]] at this)
       have hor:=hset.1
       have HWg:=hid (below_set1 HWf.out ⟨B0+1+1,k,none⟩ (.int .u32 (D:Nat)) hle2)
       clear hbd hqd hrd rad rbd hWd hsd lcx hqf hset hL hwf hs9 hD
       go_upto_region 14 with (refine wpList_store_mid rfl _ _ _ rfl (B0+1+1+1) 0 _ rfl rfl HTH.out HSA.out HONX.out ?_)
       try simp only [Act.put,List.setIfInBounds_toArray,List.set_cons_zero,List.set_cons_succ]
       try simp only [List.toList_toArray]
       rw [←HWFE.out]
       have hi1:=HI.out.1
       have hi2:=HI.out.2.1
       have hi3:=HI.out.2.2
       have hbw:=HBW.out
       go_wp2_with fail
       have HGI2:=HGI.out
       go_roundg i
       case measure=>omega
       case rel=>exact ⟨2*Q+1,x',(i:Int) - 1,by omega,by omega,by omega,HSTP.out.1,HSTP.out.2,by go_num,fun j u hu=>cell_other (HRAf.out j u hu) ⟨B0+1+1,k,none⟩ (.int .u32 (D:Nat)) (show B0+1+1≠B0 by omega),fun j u hu=>cell_other (HRBf.out j u hu) ⟨B0+1+1,k,none⟩ (.int .u32 (D:Nat)) (show B0+1+1≠B0+1 by omega),HQf.out,HRf.out.setOther ⟨B0+1+1,k,none⟩ (.int .u32 (D:Nat)) (show B0+1+1≠B0+1+1+1 by omega),HWg.out,by simpa using hsf⟩
     ·have hstp:=HST.out.2 (by omega)
      have hnum:c2=0∧v=t:=by
       have h5:=HVC.out.1
       have h6:=HVC.out.2.2.2
       have h7:=HNUM.out.2.1
       have h2:c2=0:=by
        rcases Nat.eq_zero_or_pos c2 with h2|h2
        ·exact h2
        ·have:=Nat.mul_le_mul_right (BB^32) h2
         omega
       rw [h2] at h5
       exact ⟨h2,by omega⟩
      have hov:ov=false:=by rw [HOV.out.1,hnum.1];rfl
      subst hov
      have HCMP:=hid (fun W=>compare_is v b W HVC.out.2.1 HNUM.out.2.1)
      rw [show cmpI v b=-1 by unfold cmpI;rw [if_pos (by omega)]] at HCMP
      unfold mV at HCMP
      rw [←HOV.out.2,←HCB.out] at HCMP
      have HSTP:=hid hstp
      have HVT:=hid (And.intro hnum.2 (show t<b by omega))
      clear hstp hnum hbt
      go_upto_region 12 with fail
      go_wp2_with (first
       | (refine wpList_load_guard (by rfl) _ _ rfl (B0+1+1+1) 0 rfl cv _ HCV8.out u49 rfl sv ?_)
       | (refine wpList_load_guard (by rfl) _ _ rfl (B0+1) 0 rfl cb _ HRB8.out u49 rfl sb ?_))
      refine (HCMP.out _).mono ?_
      rintro e w9 ⟨rfl,hb9⟩
      have HRA9:=hid (ranges_up HRA8.out hb9)
      have HRB9:=hid (ranges_up HRB8.out hb9)
      have HQ9:=hid (HQ8.out.up hb9 (by omega))
      have HR9:=hid (HR8.out.up hb9 (by omega))
      have HW9:=hid (HW8.out.trans (hb9.mono HW8.out.size))
      have hs9:B0+1+1+1+1≤w9.heap.size:=by have:=hb9.size;omega
      clear hb9
      go_wp2_with fail
      have HGI2:=HGI.out
      go_roundg i
      case measure=>omega
      case rel=>exact ⟨2*Q,t,(i:Int) - 1,by omega,by omega,by omega,HSTP.out,HVT.out.2,by go_num,HRA9.out,HRB9.out,by
       have:=HQ9.out
       rwa [show Q*2^(i+1)=2*Q*2^i by rw [Nat.pow_succ,Nat.mul_comm 2 Q,Nat.mul_assoc,Nat.mul_comm (2^i) 2]] at this,by have:=HR9.out;rwa [HVT.out.1] at this,HW9.out,hs9⟩
    ·obtain rfl:z=-1:=by omega
     obtain rfl:gk=0:=by omega
     obtain ⟨hQe,hre⟩:=div_end hdiv hrb
     rw [←HQR.out.1] at hQe
     rw [←HQR.out.2] at hre
     subst hQe hre
     rw [Nat.pow_zero,Nat.mul_one] at hQ6
     obtain ⟨cq,hcq⟩:∃ cq,cq=lv 32 Q:=⟨_,rfl⟩
     obtain ⟨cr,hcr⟩:∃ cr,cr=lv 32 rr:=⟨_,rfl⟩
     have HVQ2:=hid (show vq=cq.toArray by rw [HVQ.out,hcq])
     have HVR2:=hid (show vr=cr.toArray by rw [HVR.out,hcr])
     have hrq:wr.rangeAt (B0+1+1) 0 cq:=by rw [hcq];exact hQ6.1
     have hrr:wr.rangeAt (B0+1+1+1) 0 cr:=by rw [hcr];exact hR6.1
     have lcq:cq.length=32:=by rw [hcq,qlL]
     have lcr:cr.length=32:=by rw [hcr,qlL]
     have kcq:cq.toArray.all (·.oneCell')=true:=by rw [hcq];exact all_oneCell_toArray (lv_one 32 Q)
     have kcr:cr.toArray.all (·.oneCell')=true:=by rw [hcr];exact all_oneCell_toArray (lv_one 32 rr)
     have hq6:=hQ6.there
     have hr6:=hR6.there
     have sq:=HSZ.out _ lcq
     have sr:=HSZ.out _ lcr
     have HW6:=hid hW6
     clear hcq hcr hQ6 hR6 hdiv hrb hW6 ra6 rb6 hg hz hz1 hz2
     go_upto_region 15 with fail
     refine wp_region_two 49 _ _ _ _ _ _ _ (B0+1+1) (B0+1+1+1) (B0+1+1) (B0+1+1+1) cq cr (by kernel_rfl) (by kernel_rfl) (by kernel_rfl) (by kernel_rfl) (by kernel_rfl) (by kernel_rfl) (by kernel_rfl) (by kernel_rfl) (by kernel_rfl) rfl rfl rfl rfl rfl rfl rfl rfl u49 rfl sq sr kcq kcr rfl rfl rfl rfl rfl rfl hrq hrr
      (by rw [lcq];exact hq6) (by rw [lcr];exact hr6) (by omega) rfl (.inl rfl) (by omega) ?_
     simp only [Act.put,List.setIfInBounds_toArray,List.set_cons_zero,List.set_cons_succ]
     have hle2:w.heap.size≤B0+1+1:=by rw [←HBE.out];omega
     have hle3:w.heap.size≤B0+1+1+1:=by omega
     have HWE:=hid (below_sets hle3 cr 0 _ (below_sets hle2 cq 0 _ (below_drew HW6.out)))
     have g1:=World.rangeAt_setCells_same wr.drew (B0+1+1) 0 cq (by rw [lcq];exact hq6)
     have g2:=ranges_sets g1 cr (B0+1+1+1) 0 (by omega)
     have g3:=World.rangeAt_setCells_same (wr.drew.setCells (B0+1+1) 0 cq) (B0+1+1+1) 0 cr (by rw [lcr];exact there_sets (b2:=B0+1+1) (show wr.drew.there (B0+1+1+1) 0 32 from fun j hj=>hr6 j hj) cq 0 (by omega))
     go_wp2_with fail
     have hld1:=run_loadVar_mid (P:=Try.prog) _ _ _ _ _ _ g2 Try.underlying49 rfl sq
     have hld2:=run_loadVar_mid (P:=Try.prog) _ _ _ _ _ _ g3 Try.underlying49 rfl sr
     refine bodyPost_ret (v:=.tuple #[.agg cq.toArray,.agg cr.toArray]) (by simp [results,Try.results53,asAddr,hld1,hld2]) rfl ?_
     exact ⟨by rw [HVQ2.out,HVR2.out],HWE.out⟩
theorem divide_is (a b:Nat) (w:World) (ha:a<BB^32) (hb:b<BB^32) (h0:b≠0) :
  Calls Try.prog 53 #[mV a,mV b] w fun e w'=>e=.returned (.tuple #[mV (a / b),mV (a%b)])∧Below w.heap.size w w':=by
 by_cases h:a<BB^2∧b<BB^2
 ·exact divide_small a b w h.1 h.2 h0
 ·exact divide_big a b w ha hb h0 h
end Go.Proofs.Ytnkmhbiklffjlaa
set_option maxHeartbeats 8000000
namespace Go.Proofs.Ytnkmhbiklffjlaa
open Go.RowKit Big
open Lib (hid)
theorem box_ints (w:World) (na nb:Bool) (a b:Nat) (t:TypeId):∃ w0:World,w0=(((w.alloc (.cells (Value.bool na::lv 32 a).toArray t)).alloc (.cells (Value.bool nb::lv 32 b).toArray t)).alloc (.cells (Value.bool false::lv 32 0).toArray t)).alloc (.cells (Value.bool false::lv 32 0).toArray t) ∧
  Below w.heap.size w w0∧w0.heap.size=w.heap.size+1+1+1+1∧w0.cell? ⟨w.heap.size,0,none⟩=some (.bool na)∧MagAt w0 w.heap.size 1 32 a∧w0.cell? ⟨w.heap.size+1,0,none⟩=some (.bool nb)∧MagAt w0 (w.heap.size+1) 1 32 b ∧
  w0.there (w.heap.size+1+1) 0 33∧w0.there (w.heap.size+1+1+1) 0 33:=by
 obtain ⟨w1,h1,hb1,hs1,hc1,hA⟩:=box_int w na a t
 obtain ⟨w2,h2,hb2,hs2,hc2,hB⟩:=box_int w1 nb b t
 obtain ⟨w3,h3⟩:∃ w3,w3=w2.alloc (.cells (Value.bool false::lv 32 0).toArray t):=⟨_,rfl⟩
 have hs3:w3.heap.size=w2.heap.size+1:=by rw [h3];simp
 have hb3:Below w2.heap.size w2 w3:=by rw [h3];exact (Below.refl _ _).alloc (Nat.le_refl _) _
 have hb4:Below w3.heap.size w3 (w3.alloc (.cells (Value.bool false::lv 32 0).toArray t)):=(Below.refl _ _).alloc (Nat.le_refl _) _
 have t3:w3.there w2.heap.size 0 33:=by rw [h3];exact there33 w2 t
 have t4:=there33 w3 t
 have t3':=there_up t3 hb4 (by omega)
 rw [hs3] at t4
 rw [hs2,hs1] at t4 t3'
 have hb24:=hb3.trans (hb4.mono hb3.size)
 have hb14:=hb2.trans (hb24.mono hb2.size)
 refine ⟨_,rfl,?_,?_,?_,?_,?_,?_,?_,?_⟩
 all_goals rw [←h1,←h2,←h3]
 ·exact hb1.trans (hb14.mono hb1.size)
 ·rw [World.size_alloc,hs3,hs2,hs1]
 ·exact qcU hc1 hb14
 ·exact hA.up hb14
 ·rw [←hs1];exact qcU hc2 hb24
 ·rw [←hs1];exact hB.up hb24
 ·exact t3'
 ·exact t4
theorem lv_num_one:lv 32 1=[.int .u32 1,.int .u32 0,.int .u32 0,.int .u32 0,.int .u32 0,.int .u32 0,.int .u32 0,.int .u32 0,.int .u32 0,.int .u32 0,.int .u32 0,.int .u32 0,.int .u32 0,.int .u32 0,.int .u32 0,.int .u32 0,.int .u32 0,.int .u32 0,.int .u32 0,.int .u32 0,.int .u32 0,.int .u32 0,.int .u32 0,.int .u32 0,.int .u32 0,.int .u32 0,.int .u32 0,.int .u32 0,.int .u32 0,.int .u32 0,.int .u32 0,.int .u32 0]:=by
 have h0:lim 1 0=1:=by unfold lim BB;decide
 have h1:lim 1 1=0:=by unfold lim BB;decide
 rw [lv_two (v:=1) (two_lt (by omega)),h0,h1];rfl
theorem divmod_is (na nb:Bool) (a b:Nat) (m n:Nat) (w:World) (ha:a<BB^32) (hb:b<BB^32) (h0:b≠0)
  (hm:m=if na=true∧a%b≠0 then a / b+1 else a / b) (hn:n=if na=true∧a%b≠0 then b - a%b else a%b) :
  Calls Try.prog 37 #[iV na a,iV nb b] w fun e w'=>e=.returned (.tuple #[iV (cs1 (na != nb) m) m,iV false n,.int .i64 0])∧Below w.heap.size w w':=by
 obtain ⟨q,hq⟩:∃ q,q=a / b:=⟨_,rfl⟩
 obtain ⟨r,hr⟩:∃ r,r=a%b:=⟨_,rfl⟩
 have hqb:q<BB^32:=by rw [hq];exact Nat.lt_of_le_of_lt (Nat.div_le_self _ _) ha
 have hrb:r<b:=by rw [hr];exact Nat.mod_lt _ (by omega)
 have hrb2:r<BB^32:=Nat.lt_trans hrb hb
 rw [←hr] at hm hn
 rw [←hq] at hm
 have hq1:r≠0→q+1<BB^32:=by
  intro h
  have h2:2≤b:=by omega
  have h3:q≤a / 2:=by rw [hq];exact Nat.div_le_div_left h2 (by omega)
  have h4:r≤a:=by rw [hr];exact Nat.mod_le _ _
  omega
 have hmb:m<BB^32:=by
  rw [hm];split
  ·rename_i h;exact hq1 h.2
  ·exact hqb
 have hnb:n<BB^32:=by rw [hn];split<;>omega
 obtain ⟨w0,hw0,hb0,hs0,hc0,hA,hc1,hB,hT4,hT5⟩:=box_ints w na nb a b 51
 obtain ⟨zb,hzb⟩:∃ zb,zb=decide (b=0):=⟨_,rfl⟩
 obtain rfl:zb=false:=by rw [hzb];exact decide_eq_false h0
 have HZB:=hid (fun W=>zero_is b false W hb hzb)
 have HDV:=hid (fun W=>divide_is a b W ha hb h0)
 rw [←hq,←hr] at HDV
 have HCM:=hid (fun W=>canon_is (na != nb) m W hmb)
 have HCN:=hid (fun W=>canon_pos n W hnb)
 have HW:=hid hb0
 rw [lv33_zero] at hw0
 unfold mV at HZB HDV HCM HCN
 obtain ⟨ca,hca⟩:∃ ca,ca=lv 32 a:=⟨_,rfl⟩
 obtain ⟨cb,hcb⟩:∃ cb,cb=lv 32 b:=⟨_,rfl⟩
 obtain ⟨cq,hcq⟩:∃ cq,cq=lv 32 q:=⟨_,rfl⟩
 obtain ⟨cr,hcr⟩:∃ cr,cr=lv 32 r:=⟨_,rfl⟩
 rw [←hcb] at HZB
 rw [←hca,←hcb,←hcq,←hcr] at HDV
 have HRA:=hid (show w0.rangeAt w.heap.size 1 ca by rw [hca];exact hA)
 have HRB:=hid (show w0.rangeAt (w.heap.size+1) 1 cb by rw [hcb];exact hB)
 have HT4:=hid hT4
 have HT5:=hid hT5
 have sa:(Try.prog.info? 49).map (·.size)=some ca.length:=by rw [hca];exact infoMlv a
 have sb:(Try.prog.info? 49).map (·.size)=some cb.length:=by rw [hcb];exact infoMlv b
 have SAB:=hid (And.intro sa sb)
 have HCC:=hid (And.intro hca (And.intro hcb (And.intro hcq hcr)))
 have HMN:=hid (And.intro hm (And.intro hn (And.intro hmb hnb)))
 have HQR:=hid (And.intro hqb (And.intro hrb (And.intro hrb2 (And.intro hq1 hb))))
 have HU:=hid Try.underlying49
 unfold iV
 obtain ⟨va,hva⟩:∃ va,va=(Value.bool na::lv 32 a).toArray:=⟨_,rfl⟩
 obtain ⟨vb,hvb⟩:∃ vb,vb=(Value.bool nb::lv 32 b).toArray:=⟨_,rfl⟩
 rw [←hva,←hvb] at hw0 ⊢
 obtain ⟨rm,hrm⟩:∃ rm,rm=Value.bool (cs1 (na != nb) m)::lv 32 m:=⟨_,rfl⟩
 obtain ⟨rn,hrn⟩:∃ rn,rn=Value.bool false::lv 32 n:=⟨_,rfl⟩
 unfold iV at HCM HCN
 rw [←hrm] at HCM ⊢
 rw [←hrn] at HCN ⊢
 have HRMN:=hid (And.intro hrm hrn)
 clear hq hr hqb hrb hrb2 hm hn hq1 hmb hnb hb0 hA hB hT4 hT5 hzb hca hcb hcq hcr sa sb hva hvb hrm hrn ha hb h0
 go_enter Try.func37,Try.ntmps37
 go_upto_region 1 with fail
 rw [←hw0]
 obtain ⟨B0,hB0⟩:∃ B0,B0=w.heap.size:=⟨_,rfl⟩
 have HBE:=hid hB0
 rw [←hB0] at HRA HRB HT4 HT5 hs0 hc0 hc1 ⊢
 clear hw0 hB0
 go_wp2_with (first
  | (refine wpList_load_mid rfl _ _ rfl (B0+1) 1 rfl cb _ HRB.out HU.out rfl SAB.out.2 ?_))
 refine (HZB.out _).mono ?_
 rintro e w1 ⟨rfl,hb1⟩
 have HRA1:=hid (ranges_up HRA.out hb1)
 have HRB1:=hid (ranges_up HRB.out hb1)
 have HB1:=hid hb1
 clear hb1
 go_upto_region 3 with fail
 go_wp2_with (first
  | (refine wpList_load_mid rfl _ _ rfl (B0+1) 1 rfl cb _ HRB1.out HU.out rfl SAB.out.2 ?_)
  | (refine wpList_load_mid rfl _ _ rfl B0 1 rfl ca _ HRA1.out HU.out rfl SAB.out.1 ?_))
 refine (HDV.out _).mono ?_
 rintro e w2 ⟨rfl,hb2⟩
 obtain ⟨B7,hB7⟩:∃ B7,B7=w2.heap.size:=⟨_,rfl⟩
 have hb02:=HB1.out.trans (hb2.mono HB1.out.size)
 have hB7b:B0+1+1+1+1≤B7:=by have:=hb02.size;omega
 obtain ⟨w4,hw4⟩:∃ w4,w4=(w2.alloc (.cells (lv 32 0).toArray 49)).alloc (.cells (lv 32 0).toArray 49):=⟨_,rfl⟩
 have hO7:qMO w4 B7 0 32 0:=by rw [hw4,hB7];exact (qMO.new w2 32 0 _).up ((Below.refl _ _).alloc (Nat.le_refl _) _) (by simp)
 have hO8:qMO w4 (B7+1) 0 32 0:=by
  rw [hw4,hB7]
  have:=qMO.new (w2.alloc (.cells (lv 32 0).toArray 49)) 32 0 49
  rwa [World.size_alloc] at this
 have hb24:Below B7 w2 w4:=by rw [hw4,hB7];exact ((Below.refl _ _).alloc (Nat.le_refl _) _).alloc (by simp) _
 have hs4:w4.heap.size=B7+1+1:=by rw [hw4,hB7];simp
 rw [lv_zero] at hw4
 have HW4:=hid hw4
 have lcq:cq.length=32:=by rw [HCC.out.2.2.1,qlL]
 have lcr:cr.length=32:=by rw [HCC.out.2.2.2,qlL]
 have HSQ:=hid (show (Try.prog.info? 49).map (·.size)=some cq.toArray.size by rw [List.size_toArray,lcq];exact Try.infoM)
 have HSR:=hid (show (Try.prog.info? 49).map (·.size)=some cr.toArray.size by rw [List.size_toArray,lcr];exact Try.infoM)
 have HKQ:=hid (show cq.toArray.all (·.oneCell')=true by rw [HCC.out.2.2.1];exact all_oneCell_toArray (lv_one 32 q))
 have HKR:=hid (show cr.toArray.all (·.oneCell')=true by rw [HCC.out.2.2.2];exact all_oneCell_toArray (lv_one 32 r))
 have HTQ:=hid (show w4.there B7 0 cq.toArray.size by rw [List.size_toArray,lcq];exact hO7.there)
 have HTR:=hid (show (w4.setCells B7 0 cq).there (B7+1) 0 cr.toArray.size by rw [List.size_toArray,lcr];exact there_sets hO8.there _ _ (by omega))
 obtain ⟨w5,hw5⟩:∃ w5,w5=(w4.setCells B7 0 cq).setCells (B7+1) 0 cr:=⟨_,rfl⟩
 have hO7':qMO w5 B7 0 32 q:=by rw [hw5,HCC.out.2.2.1];exact own_sets (own_stored hO7) _ _ (by omega)
 have hO8':qMO w5 (B7+1) 0 32 r:=by rw [hw5,HCC.out.2.2.2];exact own_stored (own_sets hO8 _ _ (by omega))
 have hb25:Below B7 w2 w5:=by rw [hw5];exact below_sets (by omega) _ _ _ (below_sets (Nat.le_refl _) _ _ _ hb24)
 have hs5:w5.heap.size=B7+1+1:=by rw [hw5,size_sets,size_sets,hs4]
 have hb05:Below w0.heap.size w0 w5:=hb02.trans (hb25.mono (by have:=hb02.size;omega))
 have HRA5:=hid (ranges_up HRA.out hb05)
 have HRB5:=hid (ranges_up HRB.out hb05)
 have HT45:=hid (there_up HT4.out hb05 (by omega))
 have HT55:=hid (there_up HT5.out hb05 (by omega))
 have hd0:=qcU hc0 hb05
 have hd1:=qcU hc1 hb05
 have HO7:=hid hO7'
 have HO8:=hid hO8'
 have HW5:=hid (HW.out.trans (hb05.mono HW.out.size))
 have HW5E:=hid hw5
 have HB7E:=hid hB7
 have HLL:=hid (And.intro lcq lcr)
 clear hb2 hb02 hO7 hO8 hO7' hO8' hb24 hs4 hw4 hw5 hb25 hb05 lcq lcr hc0 hc1 HRA HRB HT4 HT5 HRA1 HRB1 HB1 hB7
 go_upto_region 4 with (first
  | (refine wpList_store_mid rfl _ _ _ rfl w2.heap.size 0 _ rfl rfl (by rw [←HW4.out,←HB7E.out];exact HTQ.out) HSQ.out HKQ.out ?_)
  | (refine wpList_store_mid rfl _ _ _ rfl (w2.heap.size+1) 0 _ rfl rfl (by rw [←HW4.out,←HB7E.out];exact HTR.out) HSR.out HKR.out ?_))
 try simp only [Act.put,List.setIfInBounds_toArray,List.set_cons_zero,List.set_cons_succ]
 try simp only [List.toList_toArray]
 rw [←HW4.out,←HB7E.out,←HW5E.out]
 obtain ⟨cm,hcm⟩:∃ cm,cm=lv 32 m:=⟨_,rfl⟩
 obtain ⟨cn,hcn⟩:∃ cn,cn=lv 32 n:=⟨_,rfl⟩
 rw [←hcm] at HCM
 rw [←hcn] at HCN
 have HCX:=hid (fun W (x:Bool) (cs rs:List Value) (h:(x=(na != nb)∧cs=cm∧rs=rm)∨(x=false∧cs=cn∧rs=rn))=>show Calls Try.prog 47 #[.bool x,.agg cs.toArray] W (fun e w'=>e=.returned (.agg rs.toArray)∧Below W.heap.size W w') by
  rcases h with ⟨h1,h2,h3⟩|⟨h1,h2,h3⟩
  ·rw [h1,h2,h3];exact HCM.out W
  ·rw [h1,h2,h3];exact HCN.out W)
 have sm:(Try.prog.info? 49).map (·.size)=some cm.length:=by rw [hcm];exact infoMlv m
 have sn:(Try.prog.info? 49).map (·.size)=some cn.length:=by rw [hcn];exact infoMlv n
 have lrm:rm.length=33:=by rw [HRMN.out.1,List.length_cons,qlL]
 have lrn:rn.length=33:=by rw [HRMN.out.2,List.length_cons,qlL]
 have krm:rm.toArray.all (·.oneCell')=true:=by rw [HRMN.out.1];exact all_oneCell_toArray (int_one _ m)
 have krn:rn.toArray.all (·.oneCell')=true:=by rw [HRMN.out.2];exact all_oneCell_toArray (int_one _ n)
 have u49:=HU.out
 have HCMN:=hid (And.intro hcm hcn)
 clear hcm hcn
 cases na with
 | false =>
  have hm:m=q:=by rw [HMN.out.1];simp
  have hn:n=r:=by rw [HMN.out.2.1];simp
  have HM:=hid (show w5.rangeAt B7 0 cm by rw [HCMN.out.1,hm];exact HO7.out.1)
  have HN:=hid (show w5.rangeAt (B7+1) 0 cn by rw [HCMN.out.2,hn];exact HO8.out.1)
  clear hm hn
  go_upto_region 9 with fail
  try simp only [Act.put,List.setIfInBounds_toArray,List.set_cons_zero,List.set_cons_succ]
  have cmr:w5.rangeAt B7 0 cm:=HM.out
  have cnr:w5.rangeAt (B7+1) 0 cn:=HN.out
  have e0:=fun p os=>cell_gw hd0 p os
  have e1:=fun p os=>cell_gw hd1 p os
  refine wp_region_below_tail 9 (by kernel_rfl) (by kernel_rfl) ?_
  simp only [List.take_succ_cons,List.take_zero,List.drop_succ_cons,List.drop_zero]
  repeat (first
   | (refine wpQuiet_load_mid rfl _ _ rfl B7 0 rfl cm _ cmr u49 rfl sm ?_;try simp only [Act.put,List.setIfInBounds_toArray,List.set_cons_zero,List.set_cons_succ])
   | (refine wpQuiet_load_mid rfl _ _ rfl (B7+1) 0 rfl cn _ cnr u49 rfl sn ?_;try simp only [Act.put,List.setIfInBounds_toArray,List.set_cons_zero,List.set_cons_succ])
   | go_big_quiet_step ((go_at_call 47;exact Calls.below_of (HCX.out _ _ _ _ (by first|exact .inl ⟨by first|rfl|(cases nb<;>rfl),rfl,rfl⟩|exact .inr ⟨rfl,rfl,rfl⟩)))))
  refine wpQuiet_nil ?_
  intro w' hw'
  obtain ⟨p,rfl⟩:=hw'
  have hbg:=qbG w5 p.d p.os
  obtain ⟨wx,hwx⟩:∃ wx,wx=gw w5 p.d p.os:=⟨_,rfl⟩
  rw [←hwx] at hbg ⊢
  have t4:=there_up HT45.out hbg (by omega)
  have t5:=there_up HT55.out hbg (by omega)
  have HWX:=hid ((HW5.out).trans (hbg.mono (HW5.out).size))
  clear hbg hwx e0 e1 cmr cnr
  refine wpList_store_mid rfl _ _ _ rfl (B0+1+1) 0 _ rfl rfl (by rw [List.size_toArray,lrm];exact t4) (by rw [List.size_toArray,lrm];exact Try.infoI) krm ?_
  simp only [Act.put,List.setIfInBounds_toArray,List.set_cons_zero,List.set_cons_succ]
  have t5':(wx.setCells (B0+1+1) 0 rm).there (B0+1+1+1) 0 33:=there_sets t5 rm 0 (by omega)
  refine wpList_store_mid rfl _ _ _ rfl (B0+1+1+1) 0 _ rfl rfl (by rw [List.size_toArray,lrn];exact t5') (by rw [List.size_toArray,lrn];exact Try.infoI) krn ?_
  simp only [Act.put,List.setIfInBounds_toArray,List.set_cons_zero,List.set_cons_succ]
  have hle2:w.heap.size≤B0+1+1:=by rw [←HBE.out];omega
  have hle3:w.heap.size≤B0+1+1+1:=by omega
  have HWE:=hid (below_sets hle3 rn 0 _ (below_sets hle2 rm 0 _ HWX.out))
  have g1:=World.rangeAt_setCells_same wx (B0+1+1) 0 rm (by rw [lrm];exact t4)
  have g2:=ranges_sets g1 rn (B0+1+1+1) 0 (by omega)
  have g3:=World.rangeAt_setCells_same (wx.setCells (B0+1+1) 0 rm) (B0+1+1+1) 0 rn (by rw [lrn];exact t5')
  try simp only [List.toList_toArray]
  go_wp2_with fail
  have hld1:=run_loadVar_mid (P:=Try.prog) _ _ _ _ _ _ g2 Try.underlying51 rfl (by rw [lrm];exact Try.infoI)
  have hld2:=run_loadVar_mid (P:=Try.prog) _ _ _ _ _ _ g3 Try.underlying51 rfl (by rw [lrn];exact Try.infoI)
  refine bodyPost_ret (v:=.tuple #[.agg rm.toArray,.agg rn.toArray,.int .i64 0]) (by simp [results,Try.results37,asAddr,hld1,hld2]) rfl ?_
  exact ⟨rfl,HWE.out⟩
 | true =>
  obtain ⟨z,hz⟩:∃ z,z=decide (r=0):=⟨_,rfl⟩
  have HZR:=hid (fun W=>zero_is r z W HQR.out.2.2.1 hz)
  unfold mV at HZR
  rw [←HCC.out.2.2.2] at HZR
  have HLR:=hid (show w5.rangeAt (B7+1) 0 cr by rw [HCC.out.2.2.2];exact HO8.out.1)
  have HSR2:=hid (show (Try.prog.info? 49).map (·.size)=some cr.length by rw [HCC.out.2.2.2];exact infoMlv r)
  have HZZ:=hid hz
  clear hz
  go_wp2_with (refine wpList_load_guard (by rfl) _ _ rfl (B7+1) 0 rfl cr _ HLR.out u49 rfl HSR2.out ?_)
  refine (HZR.out _).mono ?_
  rintro e w6 ⟨rfl,hb6⟩
  have hs6:B7+1+1≤w6.heap.size:=by have:=hb6.size;omega
  have HT46:=hid (there_up HT45.out hb6 (by omega))
  have HT56:=hid (there_up HT55.out hb6 (by omega))
  have hd06:=qcU hd0 hb6
  have hd16:=qcU hd1 hb6
  have HO76:=hid (HO7.out.up hb6 (by omega))
  have HO86:=hid (HO8.out.up hb6 (by omega))
  have HRB6:=hid (ranges_up HRB5.out hb6)
  have HW6:=hid (HW5.out.trans (hb6.mono HW5.out.size))
  clear hb6 hd0 hd1
  cases z with
  | true =>
   have hr0:r=0:=of_decide_eq_true HZZ.out.symm
   have hm:m=q:=by rw [HMN.out.1,if_neg (by simp [hr0])]
   have hn:n=r:=by rw [HMN.out.2.1,if_neg (by simp [hr0])]
   have HM:=hid (show w6.rangeAt B7 0 cm by rw [HCMN.out.1,hm];exact HO76.out.1)
   have HN:=hid (show w6.rangeAt (B7+1) 0 cn by rw [HCMN.out.2,hn];exact HO86.out.1)
   clear hm hn hr0
   go_upto_region 9 with fail
   try simp only [Act.put,List.setIfInBounds_toArray,List.set_cons_zero,List.set_cons_succ]
   have cmr:w6.rangeAt B7 0 cm:=HM.out
   have cnr:w6.rangeAt (B7+1) 0 cn:=HN.out
   have e0:=fun p os=>cell_gw hd06 p os
   have e1:=fun p os=>cell_gw hd16 p os
   refine wp_region_below_tail 9 (by kernel_rfl) (by kernel_rfl) ?_
   simp only [List.take_succ_cons,List.take_zero,List.drop_succ_cons,List.drop_zero]
   repeat (first
    | (refine wpQuiet_load_mid rfl _ _ rfl B7 0 rfl cm _ cmr u49 rfl sm ?_;try simp only [Act.put,List.setIfInBounds_toArray,List.set_cons_zero,List.set_cons_succ])
    | (refine wpQuiet_load_mid rfl _ _ rfl (B7+1) 0 rfl cn _ cnr u49 rfl sn ?_;try simp only [Act.put,List.setIfInBounds_toArray,List.set_cons_zero,List.set_cons_succ])
    | go_big_quiet_step ((go_at_call 47;exact Calls.below_of (HCX.out _ _ _ _ (by first|exact .inl ⟨by first|rfl|(cases nb<;>rfl),rfl,rfl⟩|exact .inr ⟨rfl,rfl,rfl⟩)))))
   refine wpQuiet_nil ?_
   intro w' hw'
   obtain ⟨p,rfl⟩:=hw'
   have hbg:=qbG w6 p.d p.os
   obtain ⟨wx,hwx⟩:∃ wx,wx=gw w6 p.d p.os:=⟨_,rfl⟩
   rw [←hwx] at hbg ⊢
   have t4:=there_up HT46.out hbg (by omega)
   have t5:=there_up HT56.out hbg (by omega)
   have HWX:=hid ((HW6.out).trans (hbg.mono (HW6.out).size))
   clear hbg hwx e0 e1 cmr cnr
   refine wpList_store_mid rfl _ _ _ rfl (B0+1+1) 0 _ rfl rfl (by rw [List.size_toArray,lrm];exact t4) (by rw [List.size_toArray,lrm];exact Try.infoI) krm ?_
   simp only [Act.put,List.setIfInBounds_toArray,List.set_cons_zero,List.set_cons_succ]
   have t5':(wx.setCells (B0+1+1) 0 rm).there (B0+1+1+1) 0 33:=there_sets t5 rm 0 (by omega)
   refine wpList_store_mid rfl _ _ _ rfl (B0+1+1+1) 0 _ rfl rfl (by rw [List.size_toArray,lrn];exact t5') (by rw [List.size_toArray,lrn];exact Try.infoI) krn ?_
   simp only [Act.put,List.setIfInBounds_toArray,List.set_cons_zero,List.set_cons_succ]
   have hle2:w.heap.size≤B0+1+1:=by rw [←HBE.out];omega
   have hle3:w.heap.size≤B0+1+1+1:=by omega
   have HWE:=hid (below_sets hle3 rn 0 _ (below_sets hle2 rm 0 _ HWX.out))
   have g1:=World.rangeAt_setCells_same wx (B0+1+1) 0 rm (by rw [lrm];exact t4)
   have g2:=ranges_sets g1 rn (B0+1+1+1) 0 (by omega)
   have g3:=World.rangeAt_setCells_same (wx.setCells (B0+1+1) 0 rm) (B0+1+1+1) 0 rn (by rw [lrn];exact t5')
   try simp only [List.toList_toArray]
   go_wp2_with fail
   have hld1:=run_loadVar_mid (P:=Try.prog) _ _ _ _ _ _ g2 Try.underlying51 rfl (by rw [lrm];exact Try.infoI)
   have hld2:=run_loadVar_mid (P:=Try.prog) _ _ _ _ _ _ g3 Try.underlying51 rfl (by rw [lrn];exact Try.infoI)
   refine bodyPost_ret (v:=.tuple #[.agg rm.toArray,.agg rn.toArray,.int .i64 0]) (by simp [results,Try.results37,asAddr,hld1,hld2]) rfl ?_
   exact ⟨rfl,HWE.out⟩
  | false =>
   have hr0:r≠0:=of_decide_eq_false HZZ.out.symm
   have hm:m=q+1:=by rw [HMN.out.1,if_pos (by simp [hr0])]
   have hn:n=b - r:=by rw [HMN.out.2.1,if_pos (by simp [hr0])]
   have HDF:=hid (fun W=>difference_is b r n W HQR.out.2.2.2.2 HQR.out.2.2.1 HMN.out.2.2.2 ⟨0,by have:=HQR.out.2.1;omega⟩)
   have HSM:=hid (fun W=>sum_is q 1 m 0 W HQR.out.1 (Nat.one_lt_pow (by omega) (by unfold BB;omega)) HMN.out.2.2.1 (by omega))
   unfold mV at HDF HSM
   rw [←HCC.out.2.1,←HCC.out.2.2.2,←HCMN.out.2] at HDF
   obtain ⟨c1,hc1⟩:∃ c1,c1=lv 32 1:=⟨_,rfl⟩
   rw [←HCC.out.2.2.1,←hc1,←HCMN.out.1] at HSM
   have HC1:=hid hc1
   have HLR6:=hid (show w6.rangeAt (B7+1) 0 cr by rw [HCC.out.2.2.2];exact HO86.out.1)
   clear hm hn hr0 hc1
   go_wp2_with (first
    | (refine wpList_load_mid rfl _ _ rfl (B0+1) 1 rfl cb _ HRB6.out u49 rfl SAB.out.2 ?_)
    | (refine wpList_load_mid rfl _ _ rfl (B7+1) 0 rfl cr _ HLR6.out u49 rfl HSR2.out ?_))
   refine (HDF.out _).mono ?_
   rintro e w7 ⟨rfl,hb7⟩
   have hs7:B7+1+1≤w7.heap.size:=by have:=hb7.size;omega
   have hO77:=HO76.out.up hb7 (by omega)
   have hO87:=HO86.out.up hb7 (by omega)
   have lcn:cn.length=32:=by rw [HCMN.out.2,qlL]
   have lcm:cm.length=32:=by rw [HCMN.out.1,qlL]
   have HSN:=hid (show (Try.prog.info? 49).map (·.size)=some cn.toArray.size by rw [List.size_toArray,lcn];exact Try.infoM)
   have HSMM:=hid (show (Try.prog.info? 49).map (·.size)=some cm.toArray.size by rw [List.size_toArray,lcm];exact Try.infoM)
   have HKN:=hid (show cn.toArray.all (·.oneCell')=true by rw [HCMN.out.2];exact all_oneCell_toArray (lv_one 32 n))
   have HKM:=hid (show cm.toArray.all (·.oneCell')=true by rw [HCMN.out.1];exact all_oneCell_toArray (lv_one 32 m))
   have HTN:=hid (show w7.there (B7+1) 0 cn.toArray.size by rw [List.size_toArray,lcn];exact hO87.there)
   obtain ⟨w8,hw8⟩:∃ w8,w8=w7.setCells (B7+1) 0 cn:=⟨_,rfl⟩
   have hs8:w8.heap.size=w7.heap.size:=by rw [hw8,size_sets]
   obtain ⟨B9,hB9⟩:∃ B9,B9=w8.heap.size:=⟨_,rfl⟩
   obtain ⟨w10,hw10⟩:∃ w10,w10=w8.alloc (.cells (lv 32 1).toArray 49):=⟨_,rfl⟩
   have hO10:qMO w10 B9 0 32 1:=by rw [hw10,hB9];exact qMO.new w8 32 1 _
   have hb810:Below B9 w8 w10:=by rw [hw10,hB9];exact (Below.refl _ _).alloc (Nat.le_refl _) _
   have hb78:Below (B7+1) w7 w8:=by rw [hw8];exact below_sets (Nat.le_refl _) _ _ _ (Below.refl _ _)
   have hO78:qMO w8 B7 0 32 q:=by rw [hw8];exact own_sets hO77 _ _ (by omega)
   have hO88:qMO w8 (B7+1) 0 32 n:=by rw [hw8,HCMN.out.2];exact own_stored hO87
   rw [hB9] at hb810
   have HO710:=hid (hO78.up hb810 (by omega))
   have HO810:=hid (hO88.up hb810 (by omega))
   rw [←hB9] at hb810
   have hs10:w10.heap.size=B9+1:=by rw [hw10,hB9];simp
   have HT410:=hid (show w10.there (B0+1+1) 0 33 by
    have h7:=there_up HT46.out hb7 (by omega)
    have h8:w8.there (B0+1+1) 0 33:=by rw [hw8];exact there_sets h7 _ _ (by omega)
    exact there_up h8 (by rw [←hB9];exact hb810) (by omega))
   have HT510:=hid (show w10.there (B0+1+1+1) 0 33 by
    have h7:=there_up HT56.out hb7 (by omega)
    have h8:w8.there (B0+1+1+1) 0 33:=by rw [hw8];exact there_sets h7 _ _ (by omega)
    exact there_up h8 (by rw [←hB9];exact hb810) (by omega))
   have hd010:w10.cell? ⟨B0,0,none⟩=some (.bool true):=qcU (by rw [hb78.cell (by simp;omega)];exact qcU hd06 hb7) (by rw [←hB9];exact hb810)
   have hd110:w10.cell? ⟨B0+1,0,none⟩=some (.bool nb):=qcU (by rw [hb78.cell (by simp;omega)];exact qcU hd16 hb7) (by rw [←hB9];exact hb810)
   have HW10:=hid (show Below w.heap.size w w10 by
    have h7:=HW6.out.trans (hb7.mono HW6.out.size)
    have h8:Below w.heap.size w w8:=by rw [hw8];exact below_sets (by rw [←HBE.out];omega) _ _ _ h7
    exact h8.trans (hb810.mono (by rw [←HBE.out];omega)))
   have HL7:=hid (show w10.rangeAt B7 0 cq by rw [HCC.out.2.2.1];exact HO710.out.1)
   have HL9:=hid (show w10.rangeAt B9 0 c1 by rw [HC1.out];exact hO10.1)
   have HSC1:=hid (show (Try.prog.info? 49).map (·.size)=some c1.length by rw [HC1.out];exact infoMlv 1)
   have HSCQ:=hid (show (Try.prog.info? 49).map (·.size)=some cq.length by rw [HCC.out.2.2.1];exact infoMlv q)
   rw [lv_num_one] at hw10
   have HWE:=hid (And.intro hw8 (And.intro hw10 hB9))
   have hs9:B7+1+1≤B9:=by omega
   clear hb7 hO77 hO87 lcn hw10 hO10 hb810 hb78 hO78 hO88 hd06 hd16 hw8 hs7 hs8 hB9
   go_upto_region 6 with (refine wpList_store_mid rfl _ _ _ rfl (B7+1) 0 _ rfl rfl HTN.out HSN.out HKN.out ?_)
   try simp only [Act.put,List.setIfInBounds_toArray,List.set_cons_zero,List.set_cons_succ]
   try simp only [List.toList_toArray]
   rw [←HWE.out.1]
   go_upto_region 8 with fail
   rw [←HWE.out.2.1,←HWE.out.2.2]
   go_wp2_with (first
    | (refine wpList_load_mid rfl _ _ rfl B7 0 rfl cq _ HL7.out u49 rfl HSCQ.out ?_)
    | (refine wpList_load_mid rfl _ _ rfl B9 0 rfl c1 _ HL9.out u49 rfl HSC1.out ?_))
   refine (HSM.out _).mono ?_
   rintro e w11 ⟨rfl,hb11⟩
   have hs11:B9≤w11.heap.size:=by have:=hb11.size;omega
   have hO711:=HO710.out.up hb11 (by omega)
   have hO811:=HO810.out.up hb11 (by omega)
   have hT411:=there_up HT410.out hb11 (by omega)
   have hT511:=there_up HT510.out hb11 (by omega)
   have hd011:=qcU hd010 hb11
   have hd111:=qcU hd110 hb11
   have hW11:=HW10.out.trans (hb11.mono HW10.out.size)
   have HTM:=hid (show w11.there B7 0 cm.toArray.size by rw [List.size_toArray,lcm];exact hO711.there)
   obtain ⟨w12,hw12⟩:∃ w12,w12=w11.setCells B7 0 cm:=⟨_,rfl⟩
   have HM:=hid (show w12.rangeAt B7 0 cm by rw [hw12,HCMN.out.1];exact (own_stored hO711).1)
   have HN:=hid (show w12.rangeAt (B7+1) 0 cn by rw [hw12,HCMN.out.2];exact (own_sets hO811 _ _ (by omega)).1)
   have HT412:=hid (show w12.there (B0+1+1) 0 33 by rw [hw12];exact there_sets hT411 _ _ (by omega))
   have HT512:=hid (show w12.there (B0+1+1+1) 0 33 by rw [hw12];exact there_sets hT511 _ _ (by omega))
   have hb1112:Below B7 w11 w12:=by rw [hw12];exact below_sets (Nat.le_refl _) _ _ _ (Below.refl _ _)
   have hd012:w12.cell? ⟨B0,0,none⟩=some (.bool true):=by rw [hb1112.cell (by simp;omega)];exact hd011
   have hd112:w12.cell? ⟨B0+1,0,none⟩=some (.bool nb):=by rw [hb1112.cell (by simp;omega)];exact hd111
   have HW12:=hid (show Below w.heap.size w w12 by rw [hw12];exact below_sets (by rw [←HBE.out];omega) _ _ _ hW11)
   have hs12:B7+1+1≤w12.heap.size:=by rw [hw12,size_sets];omega
   have HW12E:=hid hw12
   clear hb11 hO711 hO811 hT411 hT511 hd011 hd111 hd010 hd110 hW11 hw12 hb1112
   go_upto_region 9 with (refine wpList_store_mid rfl _ _ _ rfl B7 0 _ rfl rfl HTM.out HSMM.out HKM.out ?_)
   try simp only [Act.put,List.setIfInBounds_toArray,List.set_cons_zero,List.set_cons_succ]
   try simp only [List.toList_toArray]
   rw [←HW12E.out]
   try simp only [Act.put,List.setIfInBounds_toArray,List.set_cons_zero,List.set_cons_succ]
   have cmr:w12.rangeAt B7 0 cm:=HM.out
   have cnr:w12.rangeAt (B7+1) 0 cn:=HN.out
   have e0:=fun p os=>cell_gw hd012 p os
   have e1:=fun p os=>cell_gw hd112 p os
   refine wp_region_below_tail 9 (by kernel_rfl) (by kernel_rfl) ?_
   simp only [List.take_succ_cons,List.take_zero,List.drop_succ_cons,List.drop_zero]
   repeat (first
    | (refine wpQuiet_load_mid rfl _ _ rfl B7 0 rfl cm _ cmr u49 rfl sm ?_;try simp only [Act.put,List.setIfInBounds_toArray,List.set_cons_zero,List.set_cons_succ])
    | (refine wpQuiet_load_mid rfl _ _ rfl (B7+1) 0 rfl cn _ cnr u49 rfl sn ?_;try simp only [Act.put,List.setIfInBounds_toArray,List.set_cons_zero,List.set_cons_succ])
    | go_big_quiet_step ((go_at_call 47;exact Calls.below_of (HCX.out _ _ _ _ (by first|exact .inl ⟨by first|rfl|(cases nb<;>rfl),rfl,rfl⟩|exact .inr ⟨rfl,rfl,rfl⟩)))))
   refine wpQuiet_nil ?_
   intro w' hw'
   obtain ⟨p,rfl⟩:=hw'
   have hbg:=qbG w12 p.d p.os
   obtain ⟨wx,hwx⟩:∃ wx,wx=gw w12 p.d p.os:=⟨_,rfl⟩
   rw [←hwx] at hbg ⊢
   have t4:=there_up HT412.out hbg (by omega)
   have t5:=there_up HT512.out hbg (by omega)
   have HWX:=hid ((HW12.out).trans (hbg.mono (HW12.out).size))
   clear hbg hwx e0 e1 cmr cnr
   refine wpList_store_mid rfl _ _ _ rfl (B0+1+1) 0 _ rfl rfl (by rw [List.size_toArray,lrm];exact t4) (by rw [List.size_toArray,lrm];exact Try.infoI) krm ?_
   simp only [Act.put,List.setIfInBounds_toArray,List.set_cons_zero,List.set_cons_succ]
   have t5':(wx.setCells (B0+1+1) 0 rm).there (B0+1+1+1) 0 33:=there_sets t5 rm 0 (by omega)
   refine wpList_store_mid rfl _ _ _ rfl (B0+1+1+1) 0 _ rfl rfl (by rw [List.size_toArray,lrn];exact t5') (by rw [List.size_toArray,lrn];exact Try.infoI) krn ?_
   simp only [Act.put,List.setIfInBounds_toArray,List.set_cons_zero,List.set_cons_succ]
   have hle2:w.heap.size≤B0+1+1:=by rw [←HBE.out];omega
   have hle3:w.heap.size≤B0+1+1+1:=by omega
   have HWE:=hid (below_sets hle3 rn 0 _ (below_sets hle2 rm 0 _ HWX.out))
   have g1:=World.rangeAt_setCells_same wx (B0+1+1) 0 rm (by rw [lrm];exact t4)
   have g2:=ranges_sets g1 rn (B0+1+1+1) 0 (by omega)
   have g3:=World.rangeAt_setCells_same (wx.setCells (B0+1+1) 0 rm) (B0+1+1+1) 0 rn (by rw [lrn];exact t5')
   try simp only [List.toList_toArray]
   go_wp2_with fail
   have hld1:=run_loadVar_mid (P:=Try.prog) _ _ _ _ _ _ g2 Try.underlying51 rfl (by rw [lrm];exact Try.infoI)
   have hld2:=run_loadVar_mid (P:=Try.prog) _ _ _ _ _ _ g3 Try.underlying51 rfl (by rw [lrn];exact Try.infoI)
   refine bodyPost_ret (v:=.tuple #[.agg rm.toArray,.agg rn.toArray,.int .i64 0]) (by simp [results,Try.results37,asAddr,hld1,hld2]) rfl ?_
   exact ⟨rfl,HWE.out⟩
end Go.Proofs.Ytnkmhbiklffjlaa
