import Derived.Test.YtemoddmadfoaiaaGreatDaC
import Derived.Test.YtemoddmadfoaiaaGreatGkC
import Derived.Test.YtemoddmadfoaiaaGreatEvB
import Derived.Test.YtemoddmadfoaiaaGreatScP
import Derived.Deep.RegionHeld3
import Derived.Test.YtemoddmadfoaiaaGreatGkA
import Derived.Deep.CutRange
import Derived.StillTailTactics
set_option linter.unusedVariables false
set_option linter.unusedSimpArgs false
set_option maxRecDepth 100000
namespace Go.Proofs.YtemoddmadfoaiaaGreat
open Go.RowKit Big Reg Al Ga Dl
def acC (nm hl:ByteArray):List Value:=[.string nm,.string hl]
def ntC (k nm hl:ByteArray) (kd u m:Int) (vl:Value):List Value:=[.string k,.string nm,.string hl,.int .i64 kd,.int .i64 u,.int .i64 m,vl]
def zeroNt:List Value:=ntC ⟨#[]⟩ ⟨#[]⟩ ⟨#[]⟩ 0 0 0 (.slice none 0 0)
theorem qjB {cs:List Value} {nm hl:ByteArray} (h:cs=acC nm hl):(Tryz.prog.info? 54).map (·.size)=some cs.length:=by subst h;kernel_rfl
theorem qhW {cs:List Value} {v:Value} (h:cs=[v]):(Tryz.prog.info? 40).map (·.size)=some cs.length:=by subst h;kernel_rfl
theorem qaV {cs:List Value} {k nm hl:ByteArray} {kd u m:Int} {vl:Value} (h:cs=ntC k nm hl kd u m vl):(Tryz.prog.info? 66).map (·.size)=some cs.length:=by subst h;kernel_rfl
theorem qfW {cs:List Value} {k nm hl:ByteArray} {kd u m:Int} {vl:Value} (h:cs=ntC k nm hl kd u m vl) (hv:vl.oneCell'=true:=by rfl):cs.toArray.all (·.oneCell')=true:=by
 subst h;refine all_oneCell_toArray fun v hv'=>?_
 simp only [ntC,List.mem_cons,List.not_mem_nil,or_false] at hv';rcases hv' with rfl|rfl|rfl|rfl|rfl|rfl|rfl
 all_goals first|rfl|exact hv
theorem Tryz.alNt {cs:List Value} (h:(Tryz.prog.info? 66).map (·.size)=some cs.length):∃ z,LaysAs Tryz.prog 66 z∧cs.length≤z.size:=by
 refine ⟨#[.string ⟨#[]⟩,.string ⟨#[]⟩,.string ⟨#[]⟩,.int .i64 0,.int .i64 0,.int .i64 0,.slice none 0 0],?_,?_⟩
 ·intro o ho b w;unfold execOp;simp only [ho];rfl
 ·have e:(Tryz.prog.info? 66).map (·.size)=some 7:=by kernel_rfl
  rw [e] at h;injection h with h;rw [←h];exact Nat.le_refl _
theorem jaB {ca cn:List Value} {k nm hl:ByteArray} {kd:Int} (ha:ca=acC nm hl) (hn:cn=ntC k nm hl kd 0 0 (.slice none 0 0)):Tryz.prog.built 66 [(0,.string k),(1,.agg ca.toArray),(2,.int .i64 kd)]=some cn.toArray:=by subst ha hn;kernel_rfl
theorem jaA {ca cn:List Value} {k nm hl:ByteArray} {kd u m:Int} (ha:ca=acC nm hl) (hn:cn=ntC k nm hl kd u m (.slice none 0 0)):Tryz.prog.built 66 [(0,.string k),(1,.agg ca.toArray),(2,.int .i64 kd),(3,.int .i64 u),(4,.int .i64 m)]=some cn.toArray:=by subst ha hn;kernel_rfl
theorem qbQ {cs:List Value} (h:cs=ntC ⟨#[]⟩ ⟨#[]⟩ ⟨#[]⟩ 0 0 0 (.slice none 0 0)):Tryz.prog.built 66 []=some cs.toArray:=by subst h;kernel_rfl
theorem At.gro {w w':World} {b o r:Nat} {cs:List Value} (h:At w b o cs) (hg:w.grownBy w' (some r)) (hne:b≠r):At w' b o cs:=h.grown hg fun q e he=>hne (by injection e with e;rw [←he,←e])
theorem Fr.grown {Z r:Nat} {w w1 w2:World} (h:Fr Z w w1) (hg:w1.grownBy w2 (some r)) (hr:Z≤r):Fr Z w w2 :=
 ⟨h.below.grown hg h.le (by intro x hx;injection hx with hx;omega),Nat.le_trans h.le hg.size⟩
theorem At.one {w:World} {b o k:Nat} {cs:List Value} {v:Value} (h:At w b o cs) (hk:cs[k]?=some v) {p:Nat} (hp:p=o+k):w.cell? ⟨b,p,none⟩=some v∧w.frozen? ⟨b,p,none⟩=false:=by
 subst hp;exact ⟨h.range k v hk,(h.there k (List.getElem?_eq_some_iff.1 hk).1).2⟩
theorem At.set {w:World} {b k:Nat} {cs ds:List Value} {v:Value} (h:At w b 0 cs) (hd:ds=cs.set k v) (hk:k<cs.length):At (w.setCell ⟨b,k,none⟩ v) b 0 ds:=by subst hd;exact h.oneSet hk
theorem At.setO {w:World} {b o k:Nat} {cs:List Value} {v:Value} (h:At w b o cs) (hk:k<o∨o+cs.length≤k):At (w.setCell ⟨b,k,none⟩ v) b o cs:=by
 have hx:∀ j,j<cs.length→(⟨b,k,none⟩:Addr)≠⟨b,o+j,none⟩:=fun j hj e=>by injection e with _ e2;omega
 refine ⟨fun j u hj=>?_,fun j hj=>?_,by simpa [World.setCell] using h.lt⟩
 ·rw [World.cell?_setCell_other _ _ _ _ (hx j (List.getElem?_eq_some_iff.1 hj).1)];exact h.range j u hj
 ·rw [World.cell?_setCell_other _ _ _ _ (hx j hj),World.frozen?_setCell];exact h.there j hj
def tix:Value→Nat→Value
 | .tuple xs,i=>xs.getD i undef
 | _,_=>undef
theorem EvNew.upB {B n:Nat} {v:Value} {x y:World} (h:EvNew B n v x) (hd:Below x.heap.size x y):EvNew B n v y:=by
 obtain ⟨g,cs,h1,h2,h3,h4⟩:=h;exact ⟨g,cs,h1,h2,h3.below hd,h4⟩
def EvRed (B:Nat) (la lb:List Lot) (v:Value) (w:World):Prop:=∃ va vb,v=.tuple #[.agg #[va],vb,.int .i64 0]∧Own w B va la∧Own w B vb lb
theorem EvRed.upB {B:Nat} {la lb:List Lot} {v:Value} {x y:World} (h:EvRed B la lb v x) (hd:Below x.heap.size x y):EvRed B la lb v y:=by
 obtain ⟨va,vb,h1,h2,h3⟩:=h;exact ⟨va,vb,h1,h2.below hd,h3.below hd⟩
def EvIss (B:Nat) (la:List Lot) (er:Int) (v:Value) (w:World):Prop:=∃ va,v=.tuple #[.agg #[va],.int .i64 er]∧Own w B va la
theorem EvIss.upB {B:Nat} {la:List Lot} {er:Int} {v:Value} {x y:World} (h:EvIss B la er v x) (hd:Below x.heap.size x y):EvIss B la er v y:=by
 obtain ⟨va,h1,h2⟩:=h;exact ⟨va,h1,h2.below hd⟩
structure Cnt (w:World) (g:Nat) (v:Value) (co cb:List Value) (z ser:Int):Prop where
 reg:At w g 0 [v]
 off:At w g 1 co
 bid:At w g 67 cb
 pl:At w g 133 [.int .i64 z]
 ser:At w g 134 [.int .i64 ser]
theorem Cnt.grown {w w':World} {g r:Nat} {v:Value} {co cb:List Value} {z ser:Int} (h:Cnt w g v co cb z ser) (hg:w.grownBy w' (some r)) (hne:g≠r):Cnt w' g v co cb z ser :=
 ⟨h.reg.gro hg hne,h.off.gro hg hne,h.bid.gro hg hne,h.pl.gro hg hne,h.ser.gro hg hne⟩
theorem Cnt.below {w w':World} {g:Nat} {v:Value} {co cb:List Value} {z ser:Int} (h:Cnt w g v co cb z ser) (hb:Below w.heap.size w w'):Cnt w' g v co cb z ser :=
 ⟨h.reg.below hb,h.off.below hb,h.bid.below hb,h.pl.below hb,h.ser.below hb⟩
theorem Cnt.setReg {w:World} {g:Nat} {v v':Value} {co cb:List Value} {z ser:Int} (h:Cnt w g v co cb z ser):Cnt (w.setCell ⟨g,0,none⟩ v') g v' co cb z ser :=
 ⟨h.reg.set (by rfl) (Nat.zero_lt_one),h.off.setO (.inl (by decide)),h.bid.setO (.inl (by decide)),h.pl.setO (.inl (by decide)),h.ser.setO (.inl (by decide))⟩
theorem Cnt.oth {w:World} {g:Nat} {v u:Value} {co cb:List Value} {z ser:Int} (h:Cnt w g v co cb z ser) (p:Addr) (hp:p.block≠g):Cnt (w.setCell p u) g v co cb z ser :=
 ⟨h.reg.othSet _ _ hp,h.off.othSet _ _ hp,h.bid.othSet _ _ hp,h.pl.othSet _ _ hp,h.ser.othSet _ _ hp⟩
end Go.Proofs.YtemoddmadfoaiaaGreat
namespace Go.Proofs.YtemoddmadfoaiaaGreat
open Go.RowKit Reg
section
variable {P:Program} {md:Region.Mode} {ops:Array Oper} {S:World→Prop}
def putsA (a:Act) (l:List (Nat × Tmp × Value)):Act:=l.foldl (fun a p=>a.put (some p.2.1) p.2.2) a
def takesL (L:Array Bool) (is:List Nat):Array Bool:=is.foldl (fun L i=>L.setIfInBounds i true) L
def takesB (md:Region.Mode) (ops:Array Oper):Array Bool→List Nat→Bool
 | _,[]=>true
 | L,i::is=>Region.free md ops L i&&(Region.ready md ops L).contains i&&takesB md ops (L.setIfInBounds i true) is
def takesY (P:Program) (ops:Array Oper) (S:World→Prop):List (Nat × Tmp × Value)→Act→Prop
 | [],_=>True
 | (i,d,v)::l,a=>(∃ oi,ops[i]?=some oi∧oi.dst=some d∧YieldsIf P ops S oi v a)∧takesY P ops S l (a.put (some d) v)
theorem qaP (hs:Region.noSelect ops=true) {Q:Exit→Act→World→Prop} (w:World) (hS:S w) (fuel:Nat):∀ (l:List (Nat × Tmp × Value)) (L:Array Bool) (a:Act),takesB md ops L (l.map (·.1))=true→takesY P ops S l a →
  wpAnyH P md ops (NoPanic Q) S fuel (takesL L (l.map (·.1))) (putsA a l) w→wpAnyH P md ops (NoPanic Q) S (fuel+l.length) L a w
 | [],L,a,_,_,h=>h
 | (i,d,v)::l,L,a,hB,hy,h=>by
  simp only [List.map_cons,takesB,Bool.and_eq_true] at hB;obtain ⟨⟨hf,hr⟩,hB⟩:=hB;obtain ⟨⟨oi,ho,hd,hyi⟩,hy⟩:=hy;have ih:=qaP hs (Q:=Q) w hS fuel l (L.setIfInBounds i true) (a.put (some d) v) hB hy h;refine wpAnyH_take ho hs hf hr (fun _ _ _ h=>h) hyi hS ?_;rw [hd];exact ih
theorem GY.wp {o:Oper} {a:Act} {W:World} {D:Value→World→Prop} {K:Act→World→Prop} {Q:Exit→Act→World→Prop} (h:GY P a o W D) (hk:∀ v w',D v w'→K (a.put o.dst v) w'):Oper.wp P o a W K Q:=by
 unfold GY at h;unfold Oper.wp;split at h
 ·rename_i v w'' heq;rw [heq];exact hk _ _ h
 ·rename_i f args w'' heq
  rw [heq];obtain ⟨rfl,hc⟩:=h;rw [Oper.upon_enter];refine hc.mono ?_;rintro e w3 ⟨v,rfl,hD⟩;exact hk _ _ hD
 ·exact h.elim
def pairOk (ops:Array Oper) (preI:List Nat) (ic ia is:Nat) (postI finI:List Nat):Bool :=
 let T1:=takesL (Array.replicate ops.size false) preI
 let A2:=T1.setIfInBounds ic true
 let A3:=takesL A2 postI
 let A4:=A3.setIfInBounds ia true
 let B2:=T1.setIfInBounds ia true
 let B3:=B2.setIfInBounds ic true
 let B4:=takesL B3 postI
 let T5:=A4.setIfInBounds is true
 takesB .any ops (Array.replicate ops.size false) preI&&decide (Region.ready .any ops T1=[ic,ia])&&takesB .any ops A2 postI&&decide (Region.ready .any ops A3=[ia])&&decide (Region.ready .any ops B2=[ic]) &&
  takesB .any ops B3 postI&&decide (A4=B4)&&decide (Region.ready .any ops A4=[is])&&takesB .any ops T5 finI&&decide (Region.ready .any ops (takesL T5 finI)=[])&&Region.noSelect ops&&decide (ops.size=3+postI.length+finI.length+preI.length)
theorem qaU (w:World) (ob:Obj):Below w.heap.size w (w.alloc ob):=(Below.refl _ _).alloc (Nat.le_refl _) _
theorem qnB {Q:Exit→Act→World→Prop} {w w1:World} {os:Oper} {is X:Nat} {T:Array Bool} {A:Act} {x y:Operand} {tR:TypeId} {cs:Array Value} {z0:List Value} {fl:List (Nat × Tmp × Value)} (hs:Region.noSelect ops=true) (hos:ops[is]?=some os) (hr:Region.ready .any ops T=[is]) (gs:os.guard=none) (ds:os.dst=none) (op:os.op=.store tR x y)
  (hx:A.eval x=.pointer (some ⟨X,0,none⟩)) (hy:A.eval y=.agg cs) (hX:w.heap.size≤X) (hA:At w1 X 0 z0) (hz:z0.length=cs.size) (hi:(P.info? tR).map (·.size)=some cs.size) (h1:cs.all (·.oneCell')=true)
  (hb:Below w.heap.size w w1) (ht:takesB .any ops (T.setIfInBounds is true) (fl.map (·.1))=true) (hf:takesY P ops (fun W=>Below w.heap.size w W) fl A) (hd:Region.ready .any ops (takesL (T.setIfInBounds is true) (fl.map (·.1)))=[])
  (hQ:∀ w',Below w.heap.size w w'→w1.grownBy w' (some X)→At w' X 0 cs.toList→Q .normal (putsA A fl) w') (n:Nat) (hn:n=fl.length+1):wpAnyH P .any ops (NoPanic Q) (fun W=>Below w.heap.size w W) n T A w1:=by
 subst hn;refine wpAnyH_ready hr (by simp) (AllReadyH.cons hos (fun K hK=>?_) AllReadyH.nil);rw [if_pos (by simp [Region.wanted,gs])];refine wp_store_mid tR x y op X 0 cs hx hy (by rw [←hz];exact hA.there) hi h1 ?_;have hb2:Below w.heap.size w (w1.setCells X 0 cs.toList):=qaB hX cs.toList 0 w1 hb;refine hK.out _ _ hb2 fun _=>?_
 rw [ds]
 have:=qaP (md:=.any) (P:=P) (S:=fun W=>Below w.heap.size w W) hs (Q:=Q) (w1.setCells X 0 cs.toList) hb2 0 fl (T.setIfInBounds is true) A ht hf
  (wpAnyH_done hd (NoPanic.normal (hQ _ hb2 (by
   have h2:=qaB (B:=X) (b:=X) (Nat.le_refl _) cs.toList 0 w1 (Below.refl _ _);exact ⟨h2.os,h2.tape,h2.output,h2.size,fun q hq hr=>qcH q X (fun e=>hr (by rw [e])) cs.toList 0 w1⟩) (hA.allSet (by rw [hz];simp)))) 0)
 rw [Nat.zero_add] at this;exact this
theorem qfA {id:Nat} {Q:Exit→Act→World→Prop} {a:Act} {w:World} {l:List Oper} (pre:List (Nat × Tmp × Value)) (ic ia is:Nat) (postI:List Nat) (post:Value→List (Nat × Tmp × Value)) (finI:List Nat) (fin:Value→List (Nat × Tmp × Value))
  (dc da:Tmp) (tR:TypeId) (x y:Operand) (z:Array Value) (cv:Value→Array Value) (R:Nat→Value→World→Prop) (u0:Value) (F:Value→Value→Act) {oc oa os:Oper} (hm:P.follows .mixedOrders=true) (hB:pairOk l.toArray (pre.map (·.1)) ic ia is postI finI=true)
  (hoc:l.toArray[ic]?=some oc) (hoa:l.toArray[ia]?=some oa) (hos:l.toArray[is]?=some os) (gc:oc.guard=none) (ga:oa.guard=none) (gs:os.guard=none) (hdc:oc.dst=some dc) (hda:oa.dst=some da) (hds:os.dst=none) (hopa:oa.op=.alloc tR) (hops:os.op=.store tR x y)
  (hpI:∀ v,(post v).map (·.1)=postI) (hfI:∀ v,(fin v).map (·.1)=finI) (hLay:LaysAs P tR z) (hinfo:(P.info? tR).map (·.size)=some z.size)
  (hu0:(putsA a pre).put (some da) u0=putsA a pre) (hypre:takesY P l.toArray (fun W=>Below w.heap.size w W) pre a)
  (hcall:∀ u W,Below w.heap.size w W→GY P ((putsA a pre).put (some da) u) oc W (fun v w''=>Below W.heap.size W w''∧R W.heap.size v w''))
  (hR1:∀ b v x y,R b v x→Below x.heap.size x y→R b v y) (hR2:∀ b v x y X,R b v x→x.grownBy y (some X)→X<b→R b v y) (hR3:∀ b b' v x,R b v x→b'≤b→R b' v x)
  (hypost:∀ u b v W,R b v W→takesY P l.toArray (fun W=>Below w.heap.size w W) (post v) (((putsA a pre).put (some da) u).put (some dc) v))
  (hcom:∀ p v,(putsA (((putsA a pre).put (some da) u0).put (some dc) v) (post v)).put (some da) p=F p v) (hcom2:∀ p v,putsA (((putsA a pre).put (some da) p).put (some dc) v) (post v)=F p v)
  (hst:∀ p v b W,R b v W→(F p v).eval x=p∧(F p v).eval y=.agg (cv v)∧(cv v).size=z.size∧(cv v).all (·.oneCell')=true)
  (hyfin:∀ p v b W,R b v W→takesY P l.toArray (fun W=>Below w.heap.size w W) (fin v) (F p v))
  (hQ:∀ X v w',Below w.heap.size w w'→w.heap.size≤X→At w' X 0 (cv v).toList→R w.heap.size v w'→Q .normal (putsA (F (.pointer (some ⟨X,0,none⟩)) v) (fin v)) w'):(Code.region id l.toArray true).wp P Q a w:=by
 simp only [pairOk,Bool.and_eq_true,decide_eq_true_eq] at hB;obtain ⟨⟨⟨⟨⟨⟨⟨⟨⟨⟨⟨k1,k2⟩,k3⟩,k4⟩,k5⟩,k6⟩,k7⟩,k8⟩,k9⟩,k10⟩,hs⟩,hsz⟩:=hB;refine wp_region_noPanic (wp_region_any hm (wpAny_of_held (S:=fun W=>Below w.heap.size w W) _ _ _ _ ?_));have hS0:Below w.heap.size w w.drew:=qbU (Below.refl _ _);rw [List.length_map] at hsz;generalize Array.replicate l.toArray.size false=L0 at *
 rw [hsz];refine qaP hs _ hS0 _ pre _ _ k1 hypre ?_;rw [show 3+postI.length+finI.length=(2+finI.length+postI.length)+1 by omega];refine wpAnyH_ready k2 (by simp) (AllReadyH.cons hoc (fun K hK=>?_) (AllReadyH.cons hoa (fun K hK=>?_) AllReadyH.nil))
 ·rw [if_pos (by simp [Region.wanted,gc])];have hc:=hcall u0 w.drew hS0;rw [hu0] at hc;refine GY.wp hc ?_;rintro v w1 ⟨hb,hR⟩;have hS1:Below w.heap.size w w1:=hS0.trans (hb.mono hS0.size);refine hK.out _ _ hS1 fun _=>?_
  rw [hdc];have hy:=hypost u0 _ v w1 hR;have hc0:=fun p=>hcom p v
  rw [hu0] at hy hc0;rw [show postI.length=(post v).length by rw [←hpI v,List.length_map]];rw [←hpI v] at k3 k4 k8 k9 k10;refine qaP hs _ hS1 _ (post v) _ _ k3 hy ?_;rw [show 2+finI.length=(finI.length+1)+1 by omega];refine wpAnyH_ready k4 (by simp) (AllReadyH.cons hoa (fun K hK=>?_) AllReadyH.nil);rw [if_pos (by simp [Region.wanted,ga])];unfold Oper.wp;rw [hLay _ hopa _ _];have hb2:=qaU w1 (.cells z tR);have hS2:=hS1.trans (hb2.mono hS1.size);show K (Act.put _ oa.dst _) _
  refine hK.out _ _ hS2 fun _=>?_
  rw [hda,hc0];obtain ⟨e1,e2,e3,e4⟩:=hst (.pointer (some ⟨w1.heap.size,0,none⟩)) v _ _ hR;have hA:=At.fresh w1 z.toList tR rfl;rw [show z.toList.toArray=z by simp] at hA;rw [←hfI v] at k9 k10;refine qnB (w:=w) (z0:=z.toList) hs hos k8 gs hds hops e1 e2 hS1.size hA (by rw [e3];simp) (by rw [e3];exact hinfo) e4 hS2 k9 (hyfin _ v _ _ hR) k10 ?_ (finI.length+1) (by rw [←hfI v,List.length_map]);intro w' hb' hg' hA';refine hQ _ v w' hb' hS1.size hA' (hR3 _ _ _ _ (hR1 _ _ _ _ hR ?_) (show w.heap.size≤w.drew.heap.size from Nat.le_refl _));exact qgI (gBt (qaL hb2 _) hg') (Nat.le_refl _) (Nat.le_refl _)
 ·rw [if_pos (by simp [Region.wanted,ga])];unfold Oper.wp;rw [hLay _ hopa _ _];have hb1:=qaU w.drew (.cells z tR);have hS1:=hS0.trans (hb1.mono hS0.size);show K (Act.put _ oa.dst _) _
  refine hK.out _ _ hS1 fun _=>?_
  rw [hda];have hA:=At.fresh w.drew z.toList tR rfl;rw [show z.toList.toArray=z by simp] at hA;rw [show 2+finI.length+postI.length=(1+finI.length+postI.length)+1 by omega];refine wpAnyH_ready k5 (by simp) (AllReadyH.cons hoc (fun K hK=>?_) AllReadyH.nil);rw [if_pos (by simp [Region.wanted,gc])];refine GY.wp (hcall _ _ hS1) ?_;rintro v w2 ⟨hb,hR⟩;have hS2:Below w.heap.size w w2:=hS1.trans (hb.mono hS1.size);refine hK.out _ _ hS2 fun _=>?_
  rw [hdc];have hy:=hypost (.pointer (some ⟨w.drew.heap.size,0,none⟩)) _ v w2 hR;rw [show postI.length=(post v).length by rw [←hpI v,List.length_map]];rw [k7,←hpI v] at k8;rw [k7,←hpI v] at k9 k10;rw [←hpI v] at k6;refine qaP hs _ hS2 _ (post v) _ _ k6 hy ?_;rw [hcom2];obtain ⟨e1,e2,e3,e4⟩:=hst (.pointer (some ⟨w.drew.heap.size,0,none⟩)) v _ _ hR;rw [←hfI v] at k9 k10;refine qnB (w:=w) (z0:=z.toList) hs hos k8 gs hds hops e1 e2 (Nat.le_refl _) (hA.below hb) (by rw [e3];simp) (by rw [e3];exact hinfo) e4 hS2 k9 (hyfin _ v _ _ hR) k10 ?_ (1+finI.length) (by rw [←hfI v,List.length_map];omega);intro w' hb' hg' hA';exact hQ _ v w' hb' (Nat.le_refl _) hA' (hR3 _ _ _ _ (hR2 _ _ _ _ _ hR hg' (by simp)) (by simp))
end
def rowOk (ops:Array Oper) (preI:List Nat) (ib i1:Nat) (midI:List Nat) (i2:Nat):Bool :=
 let T1:=takesL (Array.replicate ops.size false) preI
 let T2:=(T1.setIfInBounds ib true).setIfInBounds i1 true
 let T3:=takesL T2 midI
 takesB .any ops (Array.replicate ops.size false) preI&&decide (Region.ready .any ops T1=[ib,i1])&&decide (Region.ready .any ops (T1.setIfInBounds ib true)=[i1])&&decide (Region.ready .any ops (T1.setIfInBounds i1 true)=[ib])&&decide (T2=(T1.setIfInBounds i1 true).setIfInBounds ib true) &&
  takesB .any ops T2 midI&&decide (Region.ready .any ops T3=[i2])&&decide (Region.ready .any ops (T3.setIfInBounds i2 true)=[])&&Region.noSelect ops&&decide (ops.size=3+midI.length+preI.length)
theorem qjS {P:Program} {id:Nat} {Q:Exit→Act→World→Prop} {a:Act} {w:World} {l:List Oper} (pre mid:List (Nat × Tmp × Value)) (ib i1 i2:Nat) (db:Tmp) (S:World→Prop) (RA RF:Value→World→Prop) (F F':Value→Act) (S1:World→World) (S2:Value→World→World) {ob o1 o2:Oper} (hm:P.follows .mixedOrders=true) (hB:rowOk l.toArray (pre.map (·.1)) ib i1 (mid.map (·.1)) i2=true)
  (hob:l.toArray[ib]?=some ob) (ho1:l.toArray[i1]?=some o1) (ho2:l.toArray[i2]?=some o2) (gb:ob.guard=none) (g1:o1.guard=none) (g2:o2.guard=none) (hdb:ob.dst=some db) (hd1:o1.dst=none) (hd2:o2.dst=none)
  (hF:∀ v,(putsA a pre).put (some db) v=F v) (hF':∀ v,putsA (F v) mid=F' v)
  (hS0:S w.drew) (hypre:takesY P l.toArray S pre a) (hrow:GY P (putsA a pre) ob w.drew (fun v w''=>S w''∧RA v w''))
  (hA:∀ v W (K:Act→World→Prop),RA v W→(S (S1 W)→RF v (S1 W)→K ((F v).put o1.dst undef) (S1 W))→Oper.wp P o1 (F v) W K (NoPanic Q))
  (hB1:∀ (K:Act→World→Prop),(S (S1 w.drew)→K ((putsA a pre).put o1.dst undef) (S1 w.drew))→Oper.wp P o1 (putsA a pre) w.drew K (NoPanic Q)) (hB2:GY P (putsA a pre) ob (S1 w.drew) (fun v w''=>S w''∧RF v w''))
  (hmid:∀ v,takesY P l.toArray S mid (F v))
  (h2:∀ v W (K:Act→World→Prop),S W→RF v W→(S (S2 v W)→K ((F' v).put o2.dst undef) (S2 v W))→Oper.wp P o2 (F' v) W K (NoPanic Q))
  (hQ:∀ v W,RF v W→Q .normal (F' v) (S2 v W)):(Code.region id l.toArray true).wp P Q a w:=by
 simp only [rowOk,Bool.and_eq_true,decide_eq_true_eq] at hB;obtain ⟨⟨⟨⟨⟨⟨⟨⟨⟨k1,k2⟩,k3⟩,k4⟩,k5⟩,k6⟩,k7⟩,k8⟩,hs⟩,hsz⟩:=hB;refine wp_region_noPanic (wp_region_any hm (wpAny_of_held (S:=S) _ _ _ _ ?_));rw [List.length_map,List.length_map] at hsz;generalize Array.replicate l.toArray.size false=L0 at *
 rw [hsz];refine qaP hs _ hS0 _ pre _ _ k1 hypre ?_
 have tail:∀ v W,S W→RF v W→wpAnyH P .any l.toArray (NoPanic Q) S (1+mid.length) (((takesL L0 (pre.map (·.1))).setIfInBounds ib true).setIfInBounds i1 true) (F v) W:=by
  intro v W hS hR;refine qaP hs _ hS 1 mid _ _ k6 (hmid v) ?_;rw [hF'];refine wpAnyH_ready k7 (by simp) (AllReadyH.cons ho2 (fun K hK=>?_) AllReadyH.nil);rw [if_pos (by simp [Region.wanted,g2])];refine h2 v W K hS hR fun hS2=>hK.out _ _ hS2 fun _=>?_
  rw [hd2];exact wpAnyH_done k8 (NoPanic.normal (hQ v W hR)) _
 rw [show 3+mid.length=(1+mid.length)+1+1 by omega];refine wpAnyH_ready k2 (by simp) (AllReadyH.cons hob (fun K hK=>?_) (AllReadyH.cons ho1 (fun K hK=>?_) AllReadyH.nil))
 ·rw [if_pos (by simp [Region.wanted,gb])];refine GY.wp hrow ?_;rintro v w1 ⟨hS,hR⟩;refine hK.out _ _ hS fun _=>?_
  rw [hdb,hF];refine wpAnyH_ready k3 (by simp) (AllReadyH.cons ho1 (fun K hK=>?_) AllReadyH.nil);rw [if_pos (by simp [Region.wanted,g1])];refine hA v w1 K hR fun hS1 hRF=>hK.out _ _ hS1 fun _=>?_
  rw [hd1];exact tail v _ hS1 hRF
 ·rw [if_pos (by simp [Region.wanted,g1])];refine hB1 K fun hS1=>hK.out _ _ hS1 fun _=>?_
  rw [hd1];show wpAnyH P .any l.toArray (NoPanic Q) S _ _ (putsA a pre) _
  refine wpAnyH_ready k4 (by simp) (AllReadyH.cons hob (fun K hK=>?_) AllReadyH.nil);rw [if_pos (by simp [Region.wanted,gb])];refine GY.wp hB2 ?_;rintro v w1 ⟨hS,hR⟩;refine hK.out _ _ hS fun _=>?_
  rw [hdb,hF,←k5];exact tail v _ hS hR
theorem GY.rowB {P:Program} {fin:Act} {o:Oper} {W:World} {t e:TypeId} {len s:Nat} {parts:Array (Nat × Operand)} (vs:List Value) (ho:o.op=.buildSlice t len parts)
  (hparts:(parts.map fun (i,x)=>(i,fin.eval x)).toList=(vs.zipIdx 0).map fun x=>(x.2,x.1)) (hlen:len=vs.length) (hpos:0<len) (hs:0<s) (hcs:∀ v∈vs,v.cells.size=s) (hsmall:len*s≤2^24)
  (hu:P.underlying t=some (.slice e)) (hsz:(P.info? e).map (·.size)=some s) (hz:((P.info? e).bind (·.zero)).isSome=true) {D:Value→World→Prop} (hD:D (.slice (some ⟨W.heap.size,0,none⟩) len len) (W.alloc (.cells (vs.flatMap fun v=>v.cells.toList).toArray e))) :
  GY P fin o W D:=by
 cases hie:P.info? e with
 | none=>simp [hie] at hsz
 | some ie =>
  simp only [hie,Option.map_some,Option.some.injEq,Option.bind_some] at hsz hz;obtain ⟨z,hzz⟩:=Option.isSome_iff_exists.1 hz
  have hrun:(execOp fin.eval o).run P W=.ok (.value (.slice (some ⟨W.heap.size,0,none⟩) len len)) (W.alloc (.cells (vs.flatMap fun v=>v.cells.toList).toArray e)):=by
   unfold execOp;have hp:0<len*ie.size:=Nat.mul_pos hpos (by omega)
   simp only [ho,Sem.run_bind,run_buildSlice W t e len _ _ ie z hu hie hzz (by rw [hsz];omega) (by omega) (by
    rw [hparts,hsz];exact Great.fill_whole hs _ _ hcs (by simp [hlen])),Result.andThen_ok]
   rfl
  exact GY.value hrun hD
end Go.Proofs.YtemoddmadfoaiaaGreat
set_option maxHeartbeats 8000000
namespace Go.Proofs.YtemoddmadfoaiaaGreat
open Go.RowKit Big Reg Al Ga Dl Tok
open Lib (hid)
namespace Dl
def okTAt (l:List Tk) (k:Nat):Bool:=match l[k]? with
 | some x=>okA x.o&&!x.o.void&&!((l.take k).any fun c=>decide (c.o.key=x.o.key))
 | none=>true
def okT (l:List Tk):Bool:=decide (l.length≤64)&&(List.range l.length).all (okTAt l)
theorem quP {l:List Tk} {k:Nat} (hk:k<l.length) (h:okTAt l k=false):okT l=false:=by
 unfold okT
 have:(List.range l.length).all (okTAt l)=false:=by rw [List.all_eq_false];exact ⟨k,List.mem_range.2 hk,by rw [h];decide⟩
 rw [this,Bool.and_false]
theorem jcE {l:List Tk} (h0:l.length≤64) (h:∀ k,k<l.length→okTAt l k=true):okT l=true:=by
 unfold okT;rw [decide_eq_true h0,Bool.true_and,List.all_eq_true];exact fun k hk=>h k (List.mem_range.1 hk)
theorem jcG {o:Od} (h:okA o=true):o.key.size≤16:=by
 have hh:headO o=true:=by
  unfold okA at h;split at h
  ·simp only [Bool.and_eq_true] at h;exact h.1
  ·unfold okO at h;simp only [Bool.and_eq_true] at h;exact h.1
 unfold headO at hh;simp only [Bool.and_eq_true] at hh;have h1:=hh.1.1;unfold Reg.nameB at h1;simp only [Bool.and_eq_true,decide_eq_true_eq] at h1;exact h1.1.1.2
end Dl
theorem qoH {l:List Tk} {k:Nat} (s:ByteArray):(((l.take k).map fun t=>t.o.key).any fun t=>decide (t=s))=(l.take k).any fun c=>decide (c.o.key=s):=by
 rw [List.any_map];rfl
theorem qzL (k:Int) (w:World):Calls Tryz.prog 58 #[.int .i64 k] w fun e w'=>e=.returned (.bool (decide (k=1) || decide (k=2)))∧Below w.heap.size w w':=by
 by_cases h1:k=1
 ·subst h1;go_enter Tryz.func58,Tryz.ntmps58
  go_wp2
  go_ret
  exact ⟨rfl,Below.refl _ _⟩
 ·by_cases h2:k=2
  ·subst h2;go_enter Tryz.func58,Tryz.ntmps58
   go_wp2
   go_ret
   exact ⟨rfl,Below.refl _ _⟩
  ·have b1:(k==1)=false:=beq_eq_false_iff_ne.2 h1;have b2:(k==2)=false:=beq_eq_false_iff_ne.2 h2;go_enter Tryz.func58,Tryz.ntmps58
   go_wp2
   go_ret
   exact ⟨qaH (by simp [h1,h2]),Below.refl _ _⟩
theorem qsE (v:Value) (l:List Tk) (w:World) (h:TksAt w v l) :
  Calls Tryz.prog 55 #[v] w (OutE (okT l) 260 w):=by
 obtain ⟨A,cap,hv⟩:=Rd.form h;have hmx:=h.2.1;by_cases h64:64<l.length
 ·have HF:=hid (show okT l=false by unfold okT;rw [decide_eq_false (by omega),Bool.false_and]);obtain ⟨n,hnn⟩:∃ n,n=l.length:=⟨_,rfl⟩;rw [←hnn] at hv h64;have h64':(64:Int)<(n:Int):=by omega
  subst hv;clear h hmx h64 hnn;go_enter Tryz.func55,Tryz.ntmps55
  go_wp2
  go_ret
  exact ⟨by rw [HF.out];rfl,Below.refl _ _⟩
 ·have hc0:∀ k x,l[k]?=some x→∃ g off,A=some ⟨g,off,none⟩∧g<w.heap.size∧∀ j u,x.cells[j]?=some u→w.cell? ⟨g,off+k*13+j,none⟩=some u:=by
   intro k x hx;have hk:=(List.getElem?_eq_some_iff.1 hx).1;obtain ⟨g,off,cap',e,hc⟩:=qpW h (by omega);rw [hv] at e;injection e with e1 e2 e3
   exact ⟨g,off,e1,World.block_lt_of_cell? w _ (hc k x hx 0 _ rfl),fun j u hu=>hc k x hx j u hu⟩
  obtain ⟨n,hnn⟩:∃ n,n=l.length:=⟨_,rfl⟩;rw [←hnn] at hv hmx h64;have h64':¬(64:Int)<(n:Int):=by omega
  subst hv;have HN:=hid hnn;have HC:=hid hc0;clear hnn hc0 h;obtain ⟨M,hM⟩:∃ M,M=w.heap.size:=⟨_,rfl⟩;have HMM:=hid hM;have hmm:=@run_makeMap Tryz.prog;go_enter Tryz.func55,Tryz.ntmps55
  go_wp2
  rw [←hM];clear hM hmm;go_loopg [12] n (fun m i wr=>∃ (k:Nat),k≤n∧n - k≤m∧i=.int .i64 k∧(∀ j,j<k→okTAt l j=true)∧SetB wr M ((l.take k).map fun t=>t.o.key)∧Below w.heap.size w wr)
  case atStart=>exact ⟨0,by omega,by omega,rfl,fun j hj=>absurd hj (by omega),by rw [HMM.out];exact SetB.made w,(Below.refl _ _).alloc (Nat.le_refl _) _⟩
  case round =>
   obtain ⟨k,hk,hm,rfl,hok,hset,hbl⟩:=hrel;have HOK:=hid hok;have HS:=hid hset;have HB0:=hid hbl;have hsz:=hbl.size;have hMlt:=hset.lt;clear hok hset hbl;by_cases hlt:k<n
   ·obtain ⟨x,hx⟩:∃ x,l[k]?=some x:=⟨l[k]'(by rw [←HN.out];exact hlt),by simp [←HN.out,hlt]⟩;obtain ⟨g,off,rfl,hg,hcx⟩:=HC.out k x hx;have HX:=hid hx;clear hx;have c0:=qcU (hcx 0 (.string x.o.key) rfl) HB0.out;have c1:=qcU (hcx 1 (.string x.o.nom) rfl) HB0.out;have c2:=qcU (hcx 2 (.string x.o.hol) rfl) HB0.out;have c3:=qcU (hcx 3 (.string x.o.fund) rfl) HB0.out;have c4:=qcU (hcx 4 (.string x.o.cls) rfl) HB0.out;have c5:=qcU (hcx 5 (.int .i64 x.o.kind) rfl) HB0.out;have c6:=qcU (hcx 6 (.int .i64 x.o.amount) rfl) HB0.out;have c7:=qcU (hcx 7 (.int .i64 x.o.units) rfl) HB0.out;have c8:=qcU (hcx 8 (.int .i64 x.o.at_) rfl) HB0.out;have c9:=qcU (hcx 9 (.int .i64 x.o.known) rfl) HB0.out;have c10:=qcU (hcx 10 (.bool x.o.void) rfl) HB0.out;have c11:=qcU (hcx 11 (.int .i64 x.day) rfl) HB0.out;have c12:=qcU (hcx 12 (.int .i64 x.first) rfl) HB0.out;rw [Nat.add_zero] at c0;clear hcx;go_upto_region 7 with fail
    obtain ⟨W1,hW1⟩:∃ W1,W1=wr.alloc (.cells #[.string x.o.key,.string x.o.nom,.string x.o.hol,.string x.o.fund,.string x.o.cls,.int .i64 x.o.kind,.int .i64 x.o.amount,.int .i64 x.o.units,.int .i64 x.o.at_,.int .i64 x.o.known,.bool x.o.void,.int .i64 x.day,.int .i64 x.first] 60):=⟨_,rfl⟩;have hbW:Below wr.heap.size wr W1:=by rw [hW1];exact (Below.refl _ _).alloc (Nat.le_refl _) _
    obtain ⟨X,hX⟩:∃ X,X=wr.heap.size:=⟨_,rfl⟩;have x0:W1.cell? ⟨X,0,none⟩=some (.string x.o.key):=by rw [hW1,hX];go_cell
    have x1:W1.cell? ⟨X,1,none⟩=some (.string x.o.nom):=by rw [hW1,hX];go_cell
    have x2:W1.cell? ⟨X,2,none⟩=some (.string x.o.hol):=by rw [hW1,hX];go_cell
    have x3:W1.cell? ⟨X,3,none⟩=some (.string x.o.fund):=by rw [hW1,hX];go_cell
    have x4:W1.cell? ⟨X,4,none⟩=some (.string x.o.cls):=by rw [hW1,hX];go_cell
    have x5:W1.cell? ⟨X,5,none⟩=some (.int .i64 x.o.kind):=by rw [hW1,hX];go_cell
    have x6:W1.cell? ⟨X,6,none⟩=some (.int .i64 x.o.amount):=by rw [hW1,hX];go_cell
    have x7:W1.cell? ⟨X,7,none⟩=some (.int .i64 x.o.units):=by rw [hW1,hX];go_cell
    have x8:W1.cell? ⟨X,8,none⟩=some (.int .i64 x.o.at_):=by rw [hW1,hX];go_cell
    have x9:W1.cell? ⟨X,9,none⟩=some (.int .i64 x.o.known):=by rw [hW1,hX];go_cell
    have x10:W1.cell? ⟨X,10,none⟩=some (.bool x.o.void):=by rw [hW1,hX];go_cell
    have HS1:=hid (HS.out.below hbW);rw [←hW1,←hX];have HBW:=hid (HB0.out.trans (hbW.mono HB0.out.size));have HXM:=hid (show M<X by rw [hX];exact hMlt);clear hW1 hbW c0 c1 c2 c3 c4 c5 c6 c7 c8 c9 c10 c11 c12 hX
    cases h1:okA x.o with
    | false =>
     have H1:=hid (quQ x.o 230 (by rw [h1];rfl));have HNO:=hid (show okTAt l k=false by simp [okTAt,HX.out,h1]);clear h1;go_wp2_with (go_at_call 86;refine (H1.out _).mono ?_;rintro e W2 ⟨rfl,hbn⟩;have HBN:=hid (HBW.out.trans (hbn.mono HBW.out.size));have z0:=qcU x0 hbn;have z10:=qcU x10 hbn;have HS2:=hid (HS1.out.below hbn);clear x0 x1 x2 x3 x4 x5 x6 x7 x8 x9 x10 hbn)
     go_ret
     exact ⟨by rw [quP (l:=l) (by rw [←HN.out];exact hlt) HNO.out];rfl,HBN.out⟩
    | true =>
     have H1:=hid (quQ x.o 0 (by rw [h1];rfl));have HSM:=hid (show x.o.key.size≤maxLen by have:=jcG h1;unfold maxLen;omega)
     cases h2:x.o.void with
     | true =>
      rw [h2] at x10 H1;have HNO:=hid (show okTAt l k=false by simp [okTAt,HX.out,h2]);clear h1;go_wp2_with (go_at_call 86;refine (H1.out _).mono ?_;rintro e W2 ⟨rfl,hbn⟩;have HBN:=hid (HBW.out.trans (hbn.mono HBW.out.size));have z0:=qcU x0 hbn;have z10:=qcU x10 hbn;have HS2:=hid (HS1.out.below hbn);clear x0 x1 x2 x3 x4 x5 x6 x7 x8 x9 x10 hbn)
      go_ret
      exact ⟨by rw [quP (l:=l) (by rw [←HN.out];exact hlt) HNO.out];rfl,HBN.out⟩
     | false =>
      rw [h2] at x10 H1
      cases h3:((l.take k).any fun c=>decide (c.o.key=x.o.key)) with
      | true =>
       have HNO:=hid (show okTAt l k=false by simp only [okTAt,HX.out];rw [h3];simp);clear h1;go_wp2_with (go_at_call 86;refine (H1.out _).mono ?_;rintro e W2 ⟨rfl,hbn⟩;have HBN:=hid (HBW.out.trans (hbn.mono HBW.out.size));have z0:=qcU x0 hbn;have z10:=qcU x10 hbn;have HS2:=hid (HS1.out.below hbn);have hlk:=HS2.out.look x.o.key (HSM.out);rw [qoH,h3] at hlk;clear x0 x1 x2 x3 x4 x5 x6 x7 x8 x9 x10 hbn)
       go_ret
       exact ⟨by rw [quP (l:=l) (by rw [←HN.out];exact hlt) HNO.out];rfl,HBN.out⟩
      | false =>
       have HYES:=hid (show okTAt l k=true by simp only [okTAt,HX.out];rw [h1,h2,h3];rfl);clear h1;go_upto_region 9 with (go_at_call 86;refine (H1.out _).mono ?_;rintro e W2 ⟨rfl,hbn⟩;have HBN:=hid (HBW.out.trans (hbn.mono HBW.out.size));have z0:=qcU x0 hbn;have z10:=qcU x10 hbn;have HS2:=hid (HS1.out.below hbn);have hlk:=HS2.out.look x.o.key (HSM.out);rw [qoH,h3] at hlk;clear x0 x1 x2 x3 x4 x5 x6 x7 x8 x9 x10 hbn)
       have hlk2:((l.take k).map fun t=>t.o.key).length<maxLen:=by simp;unfold maxLen;omega
       go_wp2_with (at_mapUpdate;refine qoM _ rfl _ _ _ rfl M _ x.o.key rfl HS2.out HSM.out hlk2 rfl rfl ?_;intro W3 hset hgrow;have HS3:=hid (show SetB W3 M ((l.take (k+1)).map fun t=>t.o.key) by (rw [List.take_add_one,HX.out,List.map_append];exact hset));have HB3:=hid (show Below w.heap.size w W3 from HBN.out.grown hgrow HBN.out.size (by intro r hr;injection hr with hr;rw [←hr,HMM.out];exact Nat.le_refl _));clear hset hgrow)
       go_roundg (gk - 1)
       case measure=>omega
       case rel=>exact ⟨k+1,by omega,by omega,by go_num,fun j hj=>by
        by_cases hjk:j=k
        ·rw [hjk,HYES.out]
        ·exact HOK.out j (by omega),HS3.out,HB3.out⟩
   ·go_wp2
    go_ret
    exact ⟨by rw [jcE (l:=l) (by rw [←HN.out];omega) (fun j hj=>HOK.out j (by rw [←HN.out] at hj;omega))];rfl,HB0.out⟩
end Go.Proofs.YtemoddmadfoaiaaGreat
namespace Go.Proofs.YtemoddmadfoaiaaGreat
open Go.RowKit Reg
def lineOk (ops:Array Oper) (preI:List Nat) (i1:Nat) (midI:List Nat) (i2:Nat) (finI:List Nat):Bool :=
 let T1:=takesL (Array.replicate ops.size false) preI
 let T2:=T1.setIfInBounds i1 true
 let T3:=takesL T2 midI
 let T4:=T3.setIfInBounds i2 true
 takesB .any ops (Array.replicate ops.size false) preI&&decide (Region.ready .any ops T1=[i1])&&takesB .any ops T2 midI&&decide (Region.ready .any ops T3=[i2])&&takesB .any ops T4 finI&&decide (Region.ready .any ops (takesL T4 finI)=[])&&Region.noSelect ops&&decide (ops.size=2+finI.length+midI.length+preI.length)
theorem qiW {P:Program} {id:Nat} {Q:Exit→Act→World→Prop} {a:Act} {w:World} {l:List Oper} (pre:List (Nat × Tmp × Value)) (mid:Value→List (Nat × Tmp × Value)) (fin:Value→Value→List (Nat × Tmp × Value)) (i1 i2:Nat) (midI finI:List Nat) (d1 d2:Tmp) (S:World→Prop) (R1:Value→World→Prop) (R2:Value→Value→World→Prop) (F1:Value→Act) (F2:Value→Value→Act) {o1 o2:Oper}
  (hm:P.follows .mixedOrders=true) (hB:lineOk l.toArray (pre.map (·.1)) i1 midI i2 finI=true) (ho1:l.toArray[i1]?=some o1) (ho2:l.toArray[i2]?=some o2) (g1:o1.guard=none) (g2:o2.guard=none) (hd1:o1.dst=some d1) (hd2:o2.dst=some d2)
  (hmI:∀ v,(mid v).map (·.1)=midI) (hfI:∀ v u,(fin v u).map (·.1)=finI)
  (hF1:∀ v,putsA ((putsA a pre).put (some d1) v) (mid v)=F1 v) (hF2:∀ v u,putsA ((F1 v).put (some d2) u) (fin v u)=F2 v u)
  (hS0:S w.drew) (hypre:takesY P l.toArray S pre a)
  (hE1:∀ K:Act→World→Prop,(∀ v w1,S w1→R1 v w1→K ((putsA a pre).put o1.dst v) w1)→Oper.wp P o1 (putsA a pre) w.drew K (NoPanic Q))
  (hmid:∀ v w1,R1 v w1→takesY P l.toArray S (mid v) ((putsA a pre).put (some d1) v))
  (hE2:∀ v w1 (K:Act→World→Prop),S w1→R1 v w1→(∀ u w2,S w2→R2 v u w2→K ((F1 v).put o2.dst u) w2)→Oper.wp P o2 (F1 v) w1 K (NoPanic Q))
  (hfin:∀ v u w2,R2 v u w2→takesY P l.toArray S (fin v u) ((F1 v).put (some d2) u))
  (hQ:∀ v u w2,R2 v u w2→Q .normal (F2 v u) w2):(Code.region id l.toArray true).wp P Q a w:=by
 simp only [lineOk,Bool.and_eq_true,decide_eq_true_eq] at hB;obtain ⟨⟨⟨⟨⟨⟨⟨k1,k2⟩,k3⟩,k4⟩,k5⟩,k6⟩,hs⟩,hsz⟩:=hB;refine wp_region_noPanic (wp_region_any hm (wpAny_of_held (S:=S) _ _ _ _ ?_));rw [List.length_map] at hsz;generalize Array.replicate l.toArray.size false=L0 at *
 rw [hsz];refine qaP hs _ hS0 _ pre _ _ k1 hypre ?_;rw [show 2+finI.length+midI.length=(1+finI.length+midI.length)+1 by omega];refine wpAnyH_ready k2 (by simp) (AllReadyH.cons ho1 (fun K hK=>?_) AllReadyH.nil);rw [if_pos (by simp [Region.wanted,g1])];refine hE1 K fun v w1 hS hR=>hK.out _ _ hS fun _=>?_
 rw [hd1];have hm0:midI.length=(mid v).length:=by rw [←hmI v,List.length_map]
 rw [hm0];rw [←hmI v] at k3 k4 k5 k6;refine qaP hs _ hS _ (mid v) _ _ k3 (hmid v w1 hR) ?_;rw [hF1,show 1+finI.length=finI.length+1 by omega];refine wpAnyH_ready k4 (by simp) (AllReadyH.cons ho2 (fun K hK=>?_) AllReadyH.nil);rw [if_pos (by simp [Region.wanted,g2])];refine hE2 v w1 K hS hR fun u w2 hS2 hR2=>hK.out _ _ hS2 fun _=>?_
 rw [hd2];rw [←hfI v u] at k5 k6;rw [show finI.length=0+(fin v u).length by rw [←hfI v u,List.length_map];omega];refine qaP hs _ hS2 0 (fin v u) _ _ k5 (hfin v u w2 hR2) ?_;rw [hF2];exact wpAnyH_done k6 (NoPanic.normal (hQ v u w2 hR2)) _
section
variable {P:Program} {ops:Array Oper}
theorem qcX {md:Region.Mode} {Q:Exit→Act→World→Prop} {S S':World→Prop} (h:∀ W,S' W→S W):∀ (fuel:Nat) (L:Array Bool) (a:Act) (w:World),wpAnyH P md ops Q S' fuel L a w→wpAnyH P md ops Q S fuel L a w
 | 0,_,_,_,h0=>h0
 | fuel+1,_,_,_,h0=>⟨h0.1,fun i hi=>wpOp_mono (fun a' w' h3=>⟨h _ h3.1,qcX h fuel _ a' w' h3.2⟩) (h0.2 i hi)⟩
def endB (ops:Array Oper) (is:Nat) (finI:List Nat) (T:Array Bool):Bool :=
 decide (Region.ready .any ops T=[is])&&takesB .any ops (T.setIfInBounds is true) finI&&decide (Region.ready .any ops (takesL (T.setIfInBounds is true) finI)=[])
def tailT (ops:Array Oper) (ic is:Nat) (postI finI:List Nat) (T:Array Bool):Bool :=
 decide (Region.ready .any ops T=[ic])&&takesB .any ops (T.setIfInBounds ic true) postI&&endB ops is finI (takesL (T.setIfInBounds ic true) postI)
def tailF (ops:Array Oper) (ic ia is:Nat) (postI finI:List Nat) (T:Array Bool):Bool :=
 let A3:=takesL (T.setIfInBounds ic true) postI
 decide (Region.ready .any ops T=[ic,ia])&&takesB .any ops (T.setIfInBounds ic true) postI&&decide (Region.ready .any ops A3=[ia])&&endB ops is finI (A3.setIfInBounds ia true)&&tailT ops ic is postI finI (T.setIfInBounds ia true)
def chT (ops:Array Oper) (tl:Array Bool→Bool):Array Bool→List (Nat × List Nat)→Bool
 | T,[]=>tl T
 | T,(i,mi)::s=>decide (Region.ready .any ops T=[i])&&takesB .any ops (T.setIfInBounds i true) mi&&chT ops tl (takesL (T.setIfInBounds i true) mi) s
def chF (ops:Array Oper) (ia:Nat) (tf tt:Array Bool→Bool):Array Bool→List (Nat × List Nat)→Bool
 | T,[]=>tf T
 | T,(i,mi)::s=>decide (Region.ready .any ops T=[i,ia])&&takesB .any ops (T.setIfInBounds i true) mi&&chF ops ia tf tt (takesL (T.setIfInBounds i true) mi) s&&chT ops tt (T.setIfInBounds ia true) ((i,mi)::s)
def chN:List (Nat × List Nat)→Nat→Nat
 | [],n=>n
 | (_,mi)::s,n=>chN s n+mi.length+1
def chainOk (ops:Array Oper) (preI:List Nat) (sts:List (Nat × List Nat)) (ic ia is:Nat) (postI finI:List Nat):Bool :=
 takesB .any ops (Array.replicate ops.size false) preI&&chF ops ia (tailF ops ic ia is postI finI) (tailT ops ic is postI finI) (takesL (Array.replicate ops.size false) preI) sts&&Region.noSelect ops&&decide (ops.size=chN sts (finI.length+1+postI.length+1)+1+preI.length)
def chY (P:Program) (ops:Array Oper) (S:World→Prop) (da:Tmp) (fin:(Value→Act)→(World→Prop)→Prop):List (Nat × List Nat)→(Value→Act)→(World→Prop)→Prop
 | [],A,K=>fin A K
 | (i,mi)::s,A,K=>∃ o d,ops[i]?=some o∧o.guard=none∧o.dst=some d∧∃ D:Value→World→Prop,(∀ v W ob,D v W→D v (W.alloc ob))∧(∀ u W,S W→K W→GY P (A u) o W (fun v w''=>Below W.heap.size W w''∧D v w'')) ∧
   ∀ v,(∃ W,D v W)→∃ (mid:List (Nat × Tmp × Value)) (A':Value→Act),mid.map (·.1)=mi∧(∀ u,takesY P ops S mid ((A u).put (some d) v))∧(∀ u,putsA ((A u).put (some d) v) mid=A' u)∧(∀ u p,(A' u).put (some da) p=A' p)∧chY P ops S da fin s A' (D v)
def TailH (P:Program) (ops:Array Oper) (Q:Exit→Act→World→Prop) (S:World→Prop) (da:Tmp) (z:Array Value) (oc:Oper) (dc:Tmp) (x y:Operand) (postI finI:List Nat) (A:Value→Act) (K:World→Prop):Prop :=
 ∃ R:Nat→Value→World→Prop,(∀ u W,S W→K W→GY P (A u) oc W (fun v w''=>Below W.heap.size W w''∧R W.heap.size v w'')) ∧
  (∀ b v x y,R b v x→Below x.heap.size x y→R b v y)∧(∀ b v x y X,R b v x→x.grownBy y (some X)→X<b→R b v y) ∧
  ∀ b v,(∃ W,R b v W)→∃ (post fin:List (Nat × Tmp × Value)) (cv:Array Value) (A':Value→Act),post.map (·.1)=postI∧fin.map (·.1)=finI∧(∀ u,takesY P ops (fun W=>S W∧R b v W) post ((A u).put (some dc) v))∧(∀ u,putsA ((A u).put (some dc) v) post=A' u)∧(∀ u p,(A' u).put (some da) p=A' p) ∧
   (∀ p,(A' p).eval x=p)∧(∀ p,(A' p).eval y=.agg cv)∧cv.size=z.size∧cv.all (·.oneCell')=true ∧
   ∀ X W,S W→R b v W→At W X 0 cv.toList→takesY P ops (fun W'=>W'=W) fin (A' (.pointer (some ⟨X,0,none⟩)))∧Q .normal (putsA (A' (.pointer (some ⟨X,0,none⟩))) fin) W
variable {Q:Exit→Act→World→Prop} {w:World} {oc oa os:Oper} {ic ia is:Nat} {postI finI:List Nat} {dc da:Tmp} {tR:TypeId} {x y:Operand} {z:Array Value}
theorem qnY (hs:Region.noSelect ops=true) (hos:ops[is]?=some os) (gs:os.guard=none) (ds:os.dst=none) (op:os.op=.store tR x y) (hinfo:(P.info? tR).map (·.size)=some z.size)
  {T:Array Bool} (hT:endB ops is finI T=true) {A':Value→Act} {cv:Array Value} {Rv:World→Prop} {fin:List (Nat × Tmp × Value)} {w1:World} {X:Nat} {z0:List Value} (hfI:fin.map (·.1)=finI)
  (hx:∀ p,(A' p).eval x=p) (hy:∀ p,(A' p).eval y=.agg cv) (hz:cv.size=z.size) (h1:cv.all (·.oneCell')=true) (hz0:z0.length=z.size) (hX:w.heap.size≤X) (hA:At w1 X 0 z0) (hb:Below w.heap.size w w1)
  (hR:∀ W',w1.grownBy W' (some X)→Rv W') (hQ:∀ X W,Below w.heap.size w W→Rv W→At W X 0 cv.toList→takesY P ops (fun W'=>W'=W) fin (A' (.pointer (some ⟨X,0,none⟩)))∧Q .normal (putsA (A' (.pointer (some ⟨X,0,none⟩))) fin) W) :
  wpAnyH P .any ops (NoPanic Q) (fun W=>Below w.heap.size w W∧Rv W) (finI.length+1) T (A' (.pointer (some ⟨X,0,none⟩))) w1:=by
 simp only [endB,Bool.and_eq_true,decide_eq_true_eq] at hT;obtain ⟨⟨k1,k2⟩,k3⟩:=hT;refine wpAnyH_ready k1 (by simp) (AllReadyH.cons hos (fun K hK=>?_) AllReadyH.nil);rw [if_pos (by simp [Region.wanted,gs])];refine wp_store_mid tR x y op X 0 cv (hx _) (hy _) (by rw [hz,←hz0];exact hA.there) (by rw [hz];exact hinfo) h1 ?_;have hb2:Below w.heap.size w (w1.setCells X 0 cv.toList):=qaB hX cv.toList 0 w1 hb;have h2:=qaB (B:=X) (b:=X) (Nat.le_refl _) cv.toList 0 w1 (Below.refl _ _);have hR2:=hR (w1.setCells X 0 cv.toList) ⟨h2.os,h2.tape,h2.output,h2.size,fun q hq hr=>qcH q X (fun e=>hr (by rw [e])) cv.toList 0 w1⟩;obtain ⟨q1,q2⟩:=hQ X _ hb2 hR2 (hA.allSet (by rw [hz0,←hz];simp));refine hK.out _ _ ⟨hb2,hR2⟩ fun _=>?_
 rw [ds];refine qcX (S':=fun W'=>W'=w1.setCells X 0 cv.toList) (fun W h=>h ▸ ⟨hb2,hR2⟩) _ _ _ _ ?_;rw [←hfI] at k2 k3 ⊢
 have:=qaP (md:=.any) (P:=P) (S:=fun W'=>W'=w1.setCells X 0 cv.toList) hs (Q:=Q) (w1.setCells X 0 cv.toList) rfl 0 fin (T.setIfInBounds is true) _ k2 q1 (wpAnyH_done k3 (NoPanic.normal q2) 0)
 rw [Nat.zero_add] at this;rw [List.length_map];exact this
theorem qiT (hs:Region.noSelect ops=true) (hoc:ops[ic]?=some oc) (hos:ops[is]?=some os) (gc:oc.guard=none) (gs:os.guard=none) (hdc:oc.dst=some dc) (ds:os.dst=none) (op:os.op=.store tR x y) (hinfo:(P.info? tR).map (·.size)=some z.size)
  {T:Array Bool} (hT:tailT ops ic is postI finI T=true) {A:Value→Act} {K:World→Prop} (hH:TailH P ops Q (fun W=>Below w.heap.size w W) da z oc dc x y postI finI A K) {w1:World} {X:Nat} (hX:w.heap.size≤X) (hXl:X<w1.heap.size) (hA:At w1 X 0 z.toList) (hb:Below w.heap.size w w1) (hK1:K w1) :
  wpAnyH P .any ops (NoPanic Q) (fun W=>Below w.heap.size w W) (finI.length+1+postI.length+1) T (A (.pointer (some ⟨X,0,none⟩))) w1:=by
 simp only [tailT,Bool.and_eq_true,decide_eq_true_eq] at hT;obtain ⟨⟨k1,k2⟩,k3⟩:=hT;obtain ⟨R,hc,hR1,hR2,hv⟩:=hH;refine wpAnyH_ready k1 (by simp) (AllReadyH.cons hoc (fun K hK=>?_) AllReadyH.nil);rw [if_pos (by simp [Region.wanted,gc])];refine GY.wp (hc _ w1 hb hK1) ?_;rintro v w2 ⟨hb2,hR⟩;have hS2:Below w.heap.size w w2:=hb.trans (hb2.mono hb.size);refine hK.out _ _ hS2 fun _=>?_
 rw [hdc];obtain ⟨post,fin,cv,A',hpI,hfI,hy,hpA,hda,ex,ey,hz,h1,hQ⟩:=hv _ v ⟨_,hR⟩;refine qcX (S':=fun W=>Below w.heap.size w W∧R w1.heap.size v W) (fun W h=>h.1) _ _ _ _ ?_;rw [←hpI] at k2 k3 ⊢;rw [List.length_map];refine qaP hs _ ⟨hS2,hR⟩ _ post _ _ k2 (hy _) ?_;rw [hpA];exact qnY hs hos gs ds op hinfo k3 hfI ex ey hz h1 (z0:=z.toList) (by simp) hX (hA.below hb2) hS2 (fun W' hg=>hR2 _ _ _ _ _ hR hg hXl) hQ
theorem qpM (hs:Region.noSelect ops=true) (hoc:ops[ic]?=some oc) (hoa:ops[ia]?=some oa) (hos:ops[is]?=some os) (gc:oc.guard=none) (ga:oa.guard=none) (gs:os.guard=none) (hdc:oc.dst=some dc) (hda:oa.dst=some da) (ds:os.dst=none) (hopa:oa.op=.alloc tR) (op:os.op=.store tR x y) (hLay:LaysAs P tR z) (hinfo:(P.info? tR).map (·.size)=some z.size)
  {T:Array Bool} (hT:tailF ops ic ia is postI finI T=true) {A:Value→Act} {K:World→Prop} (hKa:∀ W ob,K W→K (W.alloc ob)) (hAp:∀ u p,(A u).put (some da) p=A p) (hH:TailH P ops Q (fun W=>Below w.heap.size w W) da z oc dc x y postI finI A K) {w1:World} (u:Value) (hb:Below w.heap.size w w1) (hK1:K w1) :
  wpAnyH P .any ops (NoPanic Q) (fun W=>Below w.heap.size w W) (finI.length+1+postI.length+1+1) T (A u) w1:=by
 simp only [tailF,Bool.and_eq_true,decide_eq_true_eq] at hT;obtain ⟨⟨⟨⟨k1,k2⟩,k3⟩,k4⟩,k5⟩:=hT;refine wpAnyH_ready k1 (by simp) (AllReadyH.cons hoc (fun K hK=>?_) (AllReadyH.cons hoa (fun K hK=>?_) AllReadyH.nil))
 ·rw [if_pos (by simp [Region.wanted,gc])];obtain ⟨R,hc,hR1,hR2,hv⟩:=hH;refine GY.wp (hc _ w1 hb hK1) ?_;rintro v w2 ⟨hb2,hR⟩;have hS2:Below w.heap.size w w2:=hb.trans (hb2.mono hb.size);refine hK.out _ _ hS2 fun _=>?_
  rw [hdc];obtain ⟨post,fin,cv,A',hpI,hfI,hy,hpA,hda',ex,ey,hz,h1,hQ⟩:=hv _ v ⟨_,hR⟩;refine qcX (S':=fun W=>Below w.heap.size w W∧R w1.heap.size v W) (fun W h=>h.1) _ _ _ _ ?_;rw [←hpI] at k2 k3 k4 ⊢;rw [List.length_map,show finI.length+1+post.length+1=(finI.length+1+1)+post.length by omega];refine qaP hs _ ⟨hS2,hR⟩ _ post _ _ k2 (hy _) ?_;rw [hpA];refine wpAnyH_ready k3 (by simp) (AllReadyH.cons hoa (fun K hK=>?_) AllReadyH.nil);rw [if_pos (by simp [Region.wanted,ga])];unfold Oper.wp;rw [hLay _ hopa _ _];have hb3:=qaU w2 (.cells z tR);have hS3:=hS2.trans (hb3.mono hS2.size);show K (Act.put _ oa.dst _) _
  refine hK.out _ _ ⟨hS3,hR1 _ _ _ _ hR hb3⟩ fun _=>?_
  rw [hda,hda'];have hA:=At.fresh w2 z.toList tR rfl;rw [show z.toList.toArray=z by simp] at hA;refine qnY hs hos gs ds op hinfo k4 hfI ex ey hz h1 (z0:=z.toList) (by simp) hS2.size hA hS3 (fun W' hg=>hR1 _ _ _ _ hR ?_) hQ;exact qgI (gBt (qaL hb3 _) hg) (Nat.le_refl _) (Nat.le_refl _)
 ·rw [if_pos (by simp [Region.wanted,ga])];unfold Oper.wp;rw [hLay _ hopa _ _];have hb3:=qaU w1 (.cells z tR);have hS3:=hb.trans (hb3.mono hb.size);show K (Act.put _ oa.dst _) _
  refine hK.out _ _ hS3 fun _=>?_
  rw [hda,hAp];have hA:=At.fresh w1 z.toList tR rfl;rw [show z.toList.toArray=z by simp] at hA;exact qiT hs hoc hos gc gs hdc ds op hinfo k5 hH hb.size (by simp) hA hS3 (hKa _ _ hK1)
theorem qwD (hs:Region.noSelect ops=true) (hoc:ops[ic]?=some oc) (hos:ops[is]?=some os) (gc:oc.guard=none) (gs:os.guard=none) (hdc:oc.dst=some dc) (ds:os.dst=none) (op:os.op=.store tR x y) (hinfo:(P.info? tR).map (·.size)=some z.size) {X:Nat} (hX:w.heap.size≤X) :
  ∀ (sts:List (Nat × List Nat)) (T:Array Bool) (A:Value→Act) (K:World→Prop) (w1:World),chT ops (tailT ops ic is postI finI) T sts=true→chY P ops (fun W=>Below w.heap.size w W) da (TailH P ops Q (fun W=>Below w.heap.size w W) da z oc dc x y postI finI) sts A K →
  X<w1.heap.size→At w1 X 0 z.toList→Below w.heap.size w w1→K w1→wpAnyH P .any ops (NoPanic Q) (fun W=>Below w.heap.size w W) (chN sts (finI.length+1+postI.length+1)) T (A (.pointer (some ⟨X,0,none⟩))) w1
 | [],T,A,K,w1,hT,hY,hXl,hA,hb,hK1=>qiT hs hoc hos gc gs hdc ds op hinfo hT hY hX hXl hA hb hK1
 | (i,mi)::s,T,A,K,w1,hT,hY,hXl,hA,hb,hK1=>by
  simp only [chT,Bool.and_eq_true,decide_eq_true_eq] at hT;obtain ⟨⟨k1,k2⟩,k3⟩:=hT;obtain ⟨o,d,ho,hg,hd,D,hDa,hcall,hv⟩:=hY;refine wpAnyH_ready k1 (by simp) (AllReadyH.cons ho (fun K hK=>?_) AllReadyH.nil);rw [if_pos (by simp [Region.wanted,hg])];refine GY.wp (hcall _ w1 hb hK1) ?_;rintro v w2 ⟨hb2,hD⟩;have hS2:Below w.heap.size w w2:=hb.trans (hb2.mono hb.size);refine hK.out _ _ hS2 fun _=>?_
  rw [hd];obtain ⟨mid,A',hmI,hy,hpA,hdA,hrest⟩:=hv v ⟨_,hD⟩;rw [←hmI] at k2 k3;show wpAnyH P .any ops (NoPanic Q) _ (chN s (finI.length+1+postI.length+1)+mi.length) _ _ _
  rw [←hmI,List.length_map];refine qaP hs _ hS2 _ mid _ _ k2 (hy _) ?_;rw [hpA];exact qwD hs hoc hos gc gs hdc ds op hinfo hX s _ A' _ w2 k3 hrest (Nat.lt_of_lt_of_le hXl hb2.size) (hA.below hb2) hS2 hD
theorem qwE (hs:Region.noSelect ops=true) (hoc:ops[ic]?=some oc) (hoa:ops[ia]?=some oa) (hos:ops[is]?=some os) (gc:oc.guard=none) (ga:oa.guard=none) (gs:os.guard=none) (hdc:oc.dst=some dc) (hda:oa.dst=some da) (ds:os.dst=none) (hopa:oa.op=.alloc tR) (op:os.op=.store tR x y) (hLay:LaysAs P tR z) (hinfo:(P.info? tR).map (·.size)=some z.size) (u:Value) :
  ∀ (sts:List (Nat × List Nat)) (T:Array Bool) (A:Value→Act) (K:World→Prop) (w1:World),chF ops ia (tailF ops ic ia is postI finI) (tailT ops ic is postI finI) T sts=true→chY P ops (fun W=>Below w.heap.size w W) da (TailH P ops Q (fun W=>Below w.heap.size w W) da z oc dc x y postI finI) sts A K →
  (∀ W ob,K W→K (W.alloc ob))→(∀ u p,(A u).put (some da) p=A p)→Below w.heap.size w w1→K w1→wpAnyH P .any ops (NoPanic Q) (fun W=>Below w.heap.size w W) (chN sts (finI.length+1+postI.length+1)+1) T (A u) w1
 | [],T,A,K,w1,hT,hY,hKa,hAp,hb,hK1=>qpM hs hoc hoa hos gc ga gs hdc hda ds hopa op hLay hinfo hT hKa hAp hY u hb hK1
 | (i,mi)::s,T,A,K,w1,hT,hY,hKa,hAp,hb,hK1=>by
  simp only [chF,Bool.and_eq_true,decide_eq_true_eq] at hT;obtain ⟨⟨⟨k1,k2⟩,k3⟩,k4⟩:=hT;have hY0:=hY;obtain ⟨o,d,ho,hg,hd,D,hDa,hcall,hv⟩:=hY;refine wpAnyH_ready k1 (by simp) (AllReadyH.cons ho (fun K hK=>?_) (AllReadyH.cons hoa (fun K hK=>?_) AllReadyH.nil))
  ·rw [if_pos (by simp [Region.wanted,hg])];refine GY.wp (hcall _ w1 hb hK1) ?_;rintro v w2 ⟨hb2,hD⟩;have hS2:Below w.heap.size w w2:=hb.trans (hb2.mono hb.size);refine hK.out _ _ hS2 fun _=>?_
   rw [hd];obtain ⟨mid,A',hmI,hy,hpA,hdA,hrest⟩:=hv v ⟨_,hD⟩;rw [←hmI] at k2 k3;show wpAnyH P .any ops (NoPanic Q) _ (chN s (finI.length+1+postI.length+1)+mi.length+1) _ _ _
   rw [←hmI,List.length_map,show ∀ a:Nat,a+mid.length+1=(a+1)+mid.length by intro a;omega];refine qaP hs _ hS2 _ mid _ _ k2 (hy _) ?_;rw [hpA];exact qwE hs hoc hoa hos gc ga gs hdc hda ds hopa op hLay hinfo u s _ A' _ w2 k3 hrest (fun W ob h=>hDa _ _ _ h) hdA hS2 hD
  ·rw [if_pos (by simp [Region.wanted,ga])];unfold Oper.wp;rw [hLay _ hopa _ _];have hb3:=qaU w1 (.cells z tR);have hS3:=hb.trans (hb3.mono hb.size);show K (Act.put _ oa.dst _) _
   refine hK.out _ _ hS3 fun _=>?_
   rw [hda,hAp];have hA:=At.fresh w1 z.toList tR rfl;rw [show z.toList.toArray=z by simp] at hA;exact qwD hs hoc hos gc gs hdc ds op hinfo hb.size ((i,mi)::s) _ A _ _ k4 hY0 (by simp) hA hS3 (hKa _ _ hK1)
end
theorem jbT (a:Act) (d:Tmp) (u p:Value):(a.put (some d) u).put (some d) p=a.put (some d) p:=by simp [Act.put]
theorem qeE {P:Program} {id:Nat} {Q:Exit→Act→World→Prop} {a:Act} {w:World} {l:List Oper} (pre:List (Nat × Tmp × Value)) (sts:List (Nat × List Nat)) (ic ia is:Nat) (postI finI:List Nat) (dc da:Tmp) (tR:TypeId) (x y:Operand) (z:Array Value) (u0:Value) {oc oa os:Oper}
  (hm:P.follows .mixedOrders=true) (hB:chainOk l.toArray (pre.map (·.1)) sts ic ia is postI finI=true) (hoc:l.toArray[ic]?=some oc) (hoa:l.toArray[ia]?=some oa) (hos:l.toArray[is]?=some os) (gc:oc.guard=none) (ga:oa.guard=none) (gs:os.guard=none) (hdc:oc.dst=some dc) (hda:oa.dst=some da) (hds:os.dst=none) (hopa:oa.op=.alloc tR) (hops:os.op=.store tR x y)
  (hLay:LaysAs P tR z) (hinfo:(P.info? tR).map (·.size)=some z.size) (hu0:(putsA a pre).put (some da) u0=putsA a pre) (hypre:takesY P l.toArray (fun W=>Below w.heap.size w W) pre a)
  (hY:chY P l.toArray (fun W=>Below w.heap.size w W) da (TailH P l.toArray Q (fun W=>Below w.heap.size w W) da z oc dc x y postI finI) sts (fun u=>(putsA a pre).put (some da) u) (fun _=>True)):(Code.region id l.toArray true).wp P Q a w:=by
 simp only [chainOk,Bool.and_eq_true,decide_eq_true_eq] at hB;obtain ⟨⟨⟨k1,k2⟩,hs⟩,hsz⟩:=hB;refine wp_region_noPanic (wp_region_any hm (wpAny_of_held (S:=fun W=>Below w.heap.size w W) _ _ _ _ ?_));have hS0:Below w.heap.size w w.drew:=qbU (Below.refl _ _);rw [List.length_map] at hsz;generalize Array.replicate l.toArray.size false=L0 at *
 rw [hsz];refine qaP hs _ hS0 _ pre _ _ k1 hypre ?_;rw [←hu0];exact qwE hs hoc hoa hos gc ga gs hdc hda hds hopa hops hLay hinfo u0 sts _ _ _ _ k2 hY (fun _ _ h=>h) (fun u p=>jbT _ _ _ _) hS0 trivial
end Go.Proofs.YtemoddmadfoaiaaGreat
