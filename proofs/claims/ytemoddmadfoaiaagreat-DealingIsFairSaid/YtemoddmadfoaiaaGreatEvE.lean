import Derived.Test.YtemoddmadfoaiaaGreatDaC
import Derived.Test.YtemoddmadfoaiaaGreatScP
import Derived.Deep.RegionHeld3
import Derived.Deep.CutRange
import Derived.StillTailTactics
set_option linter.unusedVariables false
set_option linter.unusedSimpArgs false
set_option maxRecDepth 100000
namespace Go.Proofs.YtemoddmadfoaiaaGreat
open Go.RowKit Big Reg Al Ga Dl
def acC (nm hl:ByteArray):List Value:=[.string nm,.string hl]
def ntC (k nm hl:ByteArray) (kd u m:Int) (vl:Value):List Value:=[.string k,.string nm,.string hl,.int .i64 kd,.int .i64 u,.int .i64 m,vl]
def zeroNt:List Value:=ntC ⟨#[]⟩ ⟨#[]⟩ ⟨#[]⟩ 0 0 0 (.slice none 0 0)
theorem qkD {cs:List Value} {nm hl:ByteArray} (h:cs=acC nm hl):(Tryz.prog.info? 54).map (·.size)=some cs.length:=by subst h;kernel_rfl
theorem qkC {cs:List Value} {o:Od} (h:cs=o.cells):(Tryz.prog.info? 58).map (·.size)=some cs.length:=by subst h;kernel_rfl
theorem qiY {cs:List Value} {v:Value} (h:cs=[v]):(Tryz.prog.info? 40).map (·.size)=some cs.length:=by subst h;kernel_rfl
theorem qaY {cs:List Value} {k nm hl:ByteArray} {kd u m:Int} {vl:Value} (h:cs=ntC k nm hl kd u m vl):(Tryz.prog.info? 66).map (·.size)=some cs.length:=by subst h;kernel_rfl
theorem qgS {cs:List Value} {k nm hl:ByteArray} {kd u m:Int} {vl:Value} (h:cs=ntC k nm hl kd u m vl) (hv:vl.oneCell'=true:=by rfl):cs.toArray.all (·.oneCell')=true:=by
 subst h;refine all_oneCell_toArray fun v hv'=>?_
 simp only [ntC,List.mem_cons,List.not_mem_nil,or_false] at hv';rcases hv' with rfl|rfl|rfl|rfl|rfl|rfl|rfl
 all_goals first|rfl|exact hv
theorem Tryz.alNt {cs:List Value} (h:(Tryz.prog.info? 66).map (·.size)=some cs.length):∃ z,LaysAs Tryz.prog 66 z∧cs.length≤z.size:=by
 refine ⟨#[.string ⟨#[]⟩,.string ⟨#[]⟩,.string ⟨#[]⟩,.int .i64 0,.int .i64 0,.int .i64 0,.slice none 0 0],?_,?_⟩
 ·intro o ho b w;unfold execOp;simp only [ho];rfl
 ·have e:(Tryz.prog.info? 66).map (·.size)=some 7:=by kernel_rfl
  rw [e] at h;injection h with h;rw [←h];exact Nat.le_refl _
theorem jcR {ca cn:List Value} {k nm hl:ByteArray} {kd:Int} (ha:ca=acC nm hl) (hn:cn=ntC k nm hl kd 0 0 (.slice none 0 0)):Tryz.prog.built 66 [(0,.string k),(1,.agg ca.toArray),(2,.int .i64 kd)]=some cn.toArray:=by subst ha hn;kernel_rfl
theorem jcQ {ca cn:List Value} {k nm hl:ByteArray} {kd u m:Int} (ha:ca=acC nm hl) (hn:cn=ntC k nm hl kd u m (.slice none 0 0)):Tryz.prog.built 66 [(0,.string k),(1,.agg ca.toArray),(2,.int .i64 kd),(3,.int .i64 u),(4,.int .i64 m)]=some cn.toArray:=by subst ha hn;kernel_rfl
theorem qbX {cs:List Value} (h:cs=ntC ⟨#[]⟩ ⟨#[]⟩ ⟨#[]⟩ 0 0 0 (.slice none 0 0)):Tryz.prog.built 66 []=some cs.toArray:=by subst h;kernel_rfl
theorem At.gro {w w':World} {b o r:Nat} {cs:List Value} (h:At w b o cs) (hg:w.grownBy w' (some r)) (hne:b≠r):At w' b o cs:=h.grown hg fun q e he=>hne (by injection e with e;rw [←he,←e])
theorem Fr.grown {Z r:Nat} {w w1 w2:World} (h:Fr Z w w1) (hg:w1.grownBy w2 (some r)) (hr:Z≤r):Fr Z w w2 :=
 ⟨h.below.grown hg h.le (by intro x hx;injection hx with hx;omega),Nat.le_trans h.le hg.size⟩
theorem At.one {w:World} {b o k:Nat} {cs:List Value} {v:Value} (h:At w b o cs) (hk:cs[k]?=some v) {p:Nat} (hp:p=o+k):w.cell? ⟨b,p,none⟩=some v∧w.frozen? ⟨b,p,none⟩=false:=by
 subst hp;exact ⟨h.range k v hk,(h.there k (List.getElem?_eq_some_iff.1 hk).1).2⟩
theorem At.set {w:World} {b k:Nat} {cs ds:List Value} {v:Value} (h:At w b 0 cs) (hd:ds=cs.set k v) (hk:k<cs.length):At (w.setCell ⟨b,k,none⟩ v) b 0 ds:=by subst hd;exact h.oneSet hk
theorem At.setO {w:World} {b o k:Nat} {cs:List Value} {v:Value} (h:At w b o cs) (hk:k<o∨o+cs.length≤k):At (w.setCell ⟨b,k,none⟩ v) b o cs:=by
 have hx:∀ j,j<cs.length→(⟨b,k,none⟩:Addr)≠⟨b,o+j,none⟩:=fun j hj e=>by injection e with _ e2;omega
 refine ⟨fun j u hj=>?_,fun j hj=>?_,by simpa [World.setCell] using h.lt⟩
 ·rw [World.cell?_setCell_other _ _ _ _ (hx j (List.getElem?_eq_some_iff.1 hj).1)];exact h.range j u hj
 ·rw [World.cell?_setCell_other _ _ _ _ (hx j hj),World.frozen?_setCell];exact h.there j hj
def tix:Value→Nat→Value
 | .tuple xs,i=>xs.getD i undef
 | _,_=>undef
theorem EvNew.upB {B n:Nat} {v:Value} {x y:World} (h:EvNew B n v x) (hd:Below x.heap.size x y):EvNew B n v y:=by
 obtain ⟨g,cs,h1,h2,h3,h4⟩:=h;exact ⟨g,cs,h1,h2,h3.below hd,h4⟩
def EvRed (B:Nat) (la lb:List Lot) (v:Value) (w:World):Prop:=∃ va vb,v=.tuple #[.agg #[va],vb,.int .i64 0]∧Own w B va la∧Own w B vb lb
theorem EvRed.upB {B:Nat} {la lb:List Lot} {v:Value} {x y:World} (h:EvRed B la lb v x) (hd:Below x.heap.size x y):EvRed B la lb v y:=by
 obtain ⟨va,vb,h1,h2,h3⟩:=h;exact ⟨va,vb,h1,h2.below hd,h3.below hd⟩
def EvIss (B:Nat) (la:List Lot) (er:Int) (v:Value) (w:World):Prop:=∃ va,v=.tuple #[.agg #[va],.int .i64 er]∧Own w B va la
theorem EvIss.upB {B:Nat} {la:List Lot} {er:Int} {v:Value} {x y:World} (h:EvIss B la er v x) (hd:Below x.heap.size x y):EvIss B la er v y:=by
 obtain ⟨va,h1,h2⟩:=h;exact ⟨va,h1,h2.below hd⟩
structure Cnt (w:World) (g:Nat) (v:Value) (co cb:List Value) (z ser:Int):Prop where
 reg:At w g 0 [v]
 off:At w g 1 co
 bid:At w g 67 cb
 pl:At w g 133 [.int .i64 z]
 ser:At w g 134 [.int .i64 ser]
theorem Cnt.grown {w w':World} {g r:Nat} {v:Value} {co cb:List Value} {z ser:Int} (h:Cnt w g v co cb z ser) (hg:w.grownBy w' (some r)) (hne:g≠r):Cnt w' g v co cb z ser :=
 ⟨h.reg.gro hg hne,h.off.gro hg hne,h.bid.gro hg hne,h.pl.gro hg hne,h.ser.gro hg hne⟩
theorem Cnt.below {w w':World} {g:Nat} {v:Value} {co cb:List Value} {z ser:Int} (h:Cnt w g v co cb z ser) (hb:Below w.heap.size w w'):Cnt w' g v co cb z ser :=
 ⟨h.reg.below hb,h.off.below hb,h.bid.below hb,h.pl.below hb,h.ser.below hb⟩
theorem Cnt.setReg {w:World} {g:Nat} {v v':Value} {co cb:List Value} {z ser:Int} (h:Cnt w g v co cb z ser):Cnt (w.setCell ⟨g,0,none⟩ v') g v' co cb z ser :=
 ⟨h.reg.set (by rfl) (Nat.zero_lt_one),h.off.setO (.inl (by decide)),h.bid.setO (.inl (by decide)),h.pl.setO (.inl (by decide)),h.ser.setO (.inl (by decide))⟩
theorem Cnt.oth {w:World} {g:Nat} {v u:Value} {co cb:List Value} {z ser:Int} (h:Cnt w g v co cb z ser) (p:Addr) (hp:p.block≠g):Cnt (w.setCell p u) g v co cb z ser :=
 ⟨h.reg.othSet _ _ hp,h.off.othSet _ _ hp,h.bid.othSet _ _ hp,h.pl.othSet _ _ hp,h.ser.othSet _ _ hp⟩
end Go.Proofs.YtemoddmadfoaiaaGreat
namespace Go.Proofs.YtemoddmadfoaiaaGreat
open Go.RowKit Reg
section
variable {P:Program} {md:Region.Mode} {ops:Array Oper} {S:World→Prop}
def putsA (a:Act) (l:List (Nat × Tmp × Value)):Act:=l.foldl (fun a p=>a.put (some p.2.1) p.2.2) a
def takesL (L:Array Bool) (is:List Nat):Array Bool:=is.foldl (fun L i=>L.setIfInBounds i true) L
def takesB (md:Region.Mode) (ops:Array Oper):Array Bool→List Nat→Bool
 | _,[]=>true
 | L,i::is=>Region.free md ops L i&&(Region.ready md ops L).contains i&&takesB md ops (L.setIfInBounds i true) is
def takesY (P:Program) (ops:Array Oper) (S:World→Prop):List (Nat × Tmp × Value)→Act→Prop
 | [],_=>True
 | (i,d,v)::l,a=>(∃ oi,ops[i]?=some oi∧oi.dst=some d∧YieldsIf P ops S oi v a)∧takesY P ops S l (a.put (some d) v)
theorem qaR (hs:Region.noSelect ops=true) {Q:Exit→Act→World→Prop} (w:World) (hS:S w) (fuel:Nat):∀ (l:List (Nat × Tmp × Value)) (L:Array Bool) (a:Act),takesB md ops L (l.map (·.1))=true→takesY P ops S l a →
  wpAnyH P md ops (NoPanic Q) S fuel (takesL L (l.map (·.1))) (putsA a l) w→wpAnyH P md ops (NoPanic Q) S (fuel+l.length) L a w
 | [],L,a,_,_,h=>h
 | (i,d,v)::l,L,a,hB,hy,h=>by
  simp only [List.map_cons,takesB,Bool.and_eq_true] at hB;obtain ⟨⟨hf,hr⟩,hB⟩:=hB;obtain ⟨⟨oi,ho,hd,hyi⟩,hy⟩:=hy;have ih:=qaR hs (Q:=Q) w hS fuel l (L.setIfInBounds i true) (a.put (some d) v) hB hy h;refine wpAnyH_take ho hs hf hr (fun _ _ _ h=>h) hyi hS ?_;rw [hd];exact ih
theorem GY.wp {o:Oper} {a:Act} {W:World} {D:Value→World→Prop} {K:Act→World→Prop} {Q:Exit→Act→World→Prop} (h:GY P a o W D) (hk:∀ v w',D v w'→K (a.put o.dst v) w'):Oper.wp P o a W K Q:=by
 unfold GY at h;unfold Oper.wp;split at h
 ·rename_i v w'' heq;rw [heq];exact hk _ _ h
 ·rename_i f args w'' heq
  rw [heq];obtain ⟨rfl,hc⟩:=h;rw [Oper.upon_enter];refine hc.mono ?_;rintro e w3 ⟨v,rfl,hD⟩;exact hk _ _ hD
 ·exact h.elim
def pairOk (ops:Array Oper) (preI:List Nat) (ic ia is:Nat) (postI finI:List Nat):Bool :=
 let T1:=takesL (Array.replicate ops.size false) preI
 let A2:=T1.setIfInBounds ic true
 let A3:=takesL A2 postI
 let A4:=A3.setIfInBounds ia true
 let B2:=T1.setIfInBounds ia true
 let B3:=B2.setIfInBounds ic true
 let B4:=takesL B3 postI
 let T5:=A4.setIfInBounds is true
 takesB .any ops (Array.replicate ops.size false) preI&&decide (Region.ready .any ops T1=[ic,ia])&&takesB .any ops A2 postI&&decide (Region.ready .any ops A3=[ia])&&decide (Region.ready .any ops B2=[ic]) &&
  takesB .any ops B3 postI&&decide (A4=B4)&&decide (Region.ready .any ops A4=[is])&&takesB .any ops T5 finI&&decide (Region.ready .any ops (takesL T5 finI)=[])&&Region.noSelect ops&&decide (ops.size=3+postI.length+finI.length+preI.length)
theorem qaX (w:World) (ob:Obj):Below w.heap.size w (w.alloc ob):=(Below.refl _ _).alloc (Nat.le_refl _) _
theorem qoJ {Q:Exit→Act→World→Prop} {w w1:World} {os:Oper} {is X:Nat} {T:Array Bool} {A:Act} {x y:Operand} {tR:TypeId} {cs:Array Value} {z0:List Value} {fl:List (Nat × Tmp × Value)} (hs:Region.noSelect ops=true) (hos:ops[is]?=some os) (hr:Region.ready .any ops T=[is]) (gs:os.guard=none) (ds:os.dst=none) (op:os.op=.store tR x y)
  (hx:A.eval x=.pointer (some ⟨X,0,none⟩)) (hy:A.eval y=.agg cs) (hX:w.heap.size≤X) (hA:At w1 X 0 z0) (hz:z0.length=cs.size) (hi:(P.info? tR).map (·.size)=some cs.size) (h1:cs.all (·.oneCell')=true)
  (hb:Below w.heap.size w w1) (ht:takesB .any ops (T.setIfInBounds is true) (fl.map (·.1))=true) (hf:takesY P ops (fun W=>Below w.heap.size w W) fl A) (hd:Region.ready .any ops (takesL (T.setIfInBounds is true) (fl.map (·.1)))=[])
  (hQ:∀ w',Below w.heap.size w w'→w1.grownBy w' (some X)→At w' X 0 cs.toList→Q .normal (putsA A fl) w') (n:Nat) (hn:n=fl.length+1):wpAnyH P .any ops (NoPanic Q) (fun W=>Below w.heap.size w W) n T A w1:=by
 subst hn;refine wpAnyH_ready hr (by simp) (AllReadyH.cons hos (fun K hK=>?_) AllReadyH.nil);rw [if_pos (by simp [Region.wanted,gs])];refine wp_store_mid tR x y op X 0 cs hx hy (by rw [←hz];exact hA.there) hi h1 ?_;have hb2:Below w.heap.size w (w1.setCells X 0 cs.toList):=qaC hX cs.toList 0 w1 hb;refine hK.out _ _ hb2 fun _=>?_
 rw [ds]
 have:=qaR (md:=.any) (P:=P) (S:=fun W=>Below w.heap.size w W) hs (Q:=Q) (w1.setCells X 0 cs.toList) hb2 0 fl (T.setIfInBounds is true) A ht hf
  (wpAnyH_done hd (NoPanic.normal (hQ _ hb2 (by
   have h2:=qaC (B:=X) (b:=X) (Nat.le_refl _) cs.toList 0 w1 (Below.refl _ _);exact ⟨h2.os,h2.tape,h2.output,h2.size,fun q hq hr=>qcC q X (fun e=>hr (by rw [e])) cs.toList 0 w1⟩) (hA.allSet (by rw [hz];simp)))) 0)
 rw [Nat.zero_add] at this;exact this
theorem qfT {id:Nat} {Q:Exit→Act→World→Prop} {a:Act} {w:World} {l:List Oper} (pre:List (Nat × Tmp × Value)) (ic ia is:Nat) (postI:List Nat) (post:Value→List (Nat × Tmp × Value)) (finI:List Nat) (fin:Value→List (Nat × Tmp × Value))
  (dc da:Tmp) (tR:TypeId) (x y:Operand) (z:Array Value) (cv:Value→Array Value) (R:Nat→Value→World→Prop) (u0:Value) (F:Value→Value→Act) {oc oa os:Oper} (hm:P.follows .mixedOrders=true) (hB:pairOk l.toArray (pre.map (·.1)) ic ia is postI finI=true)
  (hoc:l.toArray[ic]?=some oc) (hoa:l.toArray[ia]?=some oa) (hos:l.toArray[is]?=some os) (gc:oc.guard=none) (ga:oa.guard=none) (gs:os.guard=none) (hdc:oc.dst=some dc) (hda:oa.dst=some da) (hds:os.dst=none) (hopa:oa.op=.alloc tR) (hops:os.op=.store tR x y)
  (hpI:∀ v,(post v).map (·.1)=postI) (hfI:∀ v,(fin v).map (·.1)=finI) (hLay:LaysAs P tR z) (hinfo:(P.info? tR).map (·.size)=some z.size)
  (hu0:(putsA a pre).put (some da) u0=putsA a pre) (hypre:takesY P l.toArray (fun W=>Below w.heap.size w W) pre a)
  (hcall:∀ u W,Below w.heap.size w W→GY P ((putsA a pre).put (some da) u) oc W (fun v w''=>Below W.heap.size W w''∧R W.heap.size v w''))
  (hR1:∀ b v x y,R b v x→Below x.heap.size x y→R b v y) (hR2:∀ b v x y X,R b v x→x.grownBy y (some X)→X<b→R b v y) (hR3:∀ b b' v x,R b v x→b'≤b→R b' v x)
  (hypost:∀ u b v W,R b v W→takesY P l.toArray (fun W=>Below w.heap.size w W) (post v) (((putsA a pre).put (some da) u).put (some dc) v))
  (hcom:∀ p v,(putsA (((putsA a pre).put (some da) u0).put (some dc) v) (post v)).put (some da) p=F p v) (hcom2:∀ p v,putsA (((putsA a pre).put (some da) p).put (some dc) v) (post v)=F p v)
  (hst:∀ p v b W,R b v W→(F p v).eval x=p∧(F p v).eval y=.agg (cv v)∧(cv v).size=z.size∧(cv v).all (·.oneCell')=true)
  (hyfin:∀ p v b W,R b v W→takesY P l.toArray (fun W=>Below w.heap.size w W) (fin v) (F p v))
  (hQ:∀ X v w',Below w.heap.size w w'→w.heap.size≤X→At w' X 0 (cv v).toList→R w.heap.size v w'→Q .normal (putsA (F (.pointer (some ⟨X,0,none⟩)) v) (fin v)) w'):(Code.region id l.toArray true).wp P Q a w:=by
 simp only [pairOk,Bool.and_eq_true,decide_eq_true_eq] at hB;obtain ⟨⟨⟨⟨⟨⟨⟨⟨⟨⟨⟨k1,k2⟩,k3⟩,k4⟩,k5⟩,k6⟩,k7⟩,k8⟩,k9⟩,k10⟩,hs⟩,hsz⟩:=hB;refine wp_region_noPanic (wp_region_any hm (wpAny_of_held (S:=fun W=>Below w.heap.size w W) _ _ _ _ ?_));have hS0:Below w.heap.size w w.drew:=qcB (Below.refl _ _);rw [List.length_map] at hsz;generalize Array.replicate l.toArray.size false=L0 at *
 rw [hsz];refine qaR hs _ hS0 _ pre _ _ k1 hypre ?_;rw [show 3+postI.length+finI.length=(2+finI.length+postI.length)+1 by omega];refine wpAnyH_ready k2 (by simp) (AllReadyH.cons hoc (fun K hK=>?_) (AllReadyH.cons hoa (fun K hK=>?_) AllReadyH.nil))
 ·rw [if_pos (by simp [Region.wanted,gc])];have hc:=hcall u0 w.drew hS0;rw [hu0] at hc;refine GY.wp hc ?_;rintro v w1 ⟨hb,hR⟩;have hS1:Below w.heap.size w w1:=hS0.trans (hb.mono hS0.size);refine hK.out _ _ hS1 fun _=>?_
  rw [hdc];have hy:=hypost u0 _ v w1 hR;have hc0:=fun p=>hcom p v
  rw [hu0] at hy hc0;rw [show postI.length=(post v).length by rw [←hpI v,List.length_map]];rw [←hpI v] at k3 k4 k8 k9 k10;refine qaR hs _ hS1 _ (post v) _ _ k3 hy ?_;rw [show 2+finI.length=(finI.length+1)+1 by omega];refine wpAnyH_ready k4 (by simp) (AllReadyH.cons hoa (fun K hK=>?_) AllReadyH.nil);rw [if_pos (by simp [Region.wanted,ga])];unfold Oper.wp;rw [hLay _ hopa _ _];have hb2:=qaX w1 (.cells z tR);have hS2:=hS1.trans (hb2.mono hS1.size);show K (Act.put _ oa.dst _) _
  refine hK.out _ _ hS2 fun _=>?_
  rw [hda,hc0];obtain ⟨e1,e2,e3,e4⟩:=hst (.pointer (some ⟨w1.heap.size,0,none⟩)) v _ _ hR;have hA:=At.fresh w1 z.toList tR rfl;rw [show z.toList.toArray=z by simp] at hA;rw [←hfI v] at k9 k10;refine qoJ (w:=w) (z0:=z.toList) hs hos k8 gs hds hops e1 e2 hS1.size hA (by rw [e3];simp) (by rw [e3];exact hinfo) e4 hS2 k9 (hyfin _ v _ _ hR) k10 ?_ (finI.length+1) (by rw [←hfI v,List.length_map]);intro w' hb' hg' hA';refine hQ _ v w' hb' hS1.size hA' (hR3 _ _ _ _ (hR1 _ _ _ _ hR ?_) (show w.heap.size≤w.drew.heap.size from Nat.le_refl _));exact qeR (gBt (qaM hb2 _) hg') (Nat.le_refl _) (Nat.le_refl _)
 ·rw [if_pos (by simp [Region.wanted,ga])];unfold Oper.wp;rw [hLay _ hopa _ _];have hb1:=qaX w.drew (.cells z tR);have hS1:=hS0.trans (hb1.mono hS0.size);show K (Act.put _ oa.dst _) _
  refine hK.out _ _ hS1 fun _=>?_
  rw [hda];have hA:=At.fresh w.drew z.toList tR rfl;rw [show z.toList.toArray=z by simp] at hA;rw [show 2+finI.length+postI.length=(1+finI.length+postI.length)+1 by omega];refine wpAnyH_ready k5 (by simp) (AllReadyH.cons hoc (fun K hK=>?_) AllReadyH.nil);rw [if_pos (by simp [Region.wanted,gc])];refine GY.wp (hcall _ _ hS1) ?_;rintro v w2 ⟨hb,hR⟩;have hS2:Below w.heap.size w w2:=hS1.trans (hb.mono hS1.size);refine hK.out _ _ hS2 fun _=>?_
  rw [hdc];have hy:=hypost (.pointer (some ⟨w.drew.heap.size,0,none⟩)) _ v w2 hR;rw [show postI.length=(post v).length by rw [←hpI v,List.length_map]];rw [k7,←hpI v] at k8;rw [k7,←hpI v] at k9 k10;rw [←hpI v] at k6;refine qaR hs _ hS2 _ (post v) _ _ k6 hy ?_;rw [hcom2];obtain ⟨e1,e2,e3,e4⟩:=hst (.pointer (some ⟨w.drew.heap.size,0,none⟩)) v _ _ hR;rw [←hfI v] at k9 k10;refine qoJ (w:=w) (z0:=z.toList) hs hos k8 gs hds hops e1 e2 (Nat.le_refl _) (hA.below hb) (by rw [e3];simp) (by rw [e3];exact hinfo) e4 hS2 k9 (hyfin _ v _ _ hR) k10 ?_ (1+finI.length) (by rw [←hfI v,List.length_map];omega);intro w' hb' hg' hA';exact hQ _ v w' hb' (Nat.le_refl _) hA' (hR3 _ _ _ _ (hR2 _ _ _ _ _ hR hg' (by simp)) (by simp))
end
end Go.Proofs.YtemoddmadfoaiaaGreat
set_option maxHeartbeats 8000000
namespace Go.Proofs.YtemoddmadfoaiaaGreat
open Go.RowKit Big Reg Al Ga Dl
open Lib (hid)
def ExeP (g:Nat) (v0:Value) (l0:List Lot) (co cb:List Value) (z ser:Int) (r:Except Int (List Lot × Nt)) (w:World) (e:Ending) (w':World):Prop:=w.grownBy w' (some g)∧match r with
 | .error c=>e=.returned (.tuple #[.agg zeroNt.toArray,.int .i64 c])
 | .ok (l',x)=>∃ v' vl,e=.returned (.tuple #[.agg (ntC x.key x.nom x.hol x.kind x.units x.money vl).toArray,.int .i64 0])∧Cnt w' g v' co cb z ser∧(Own w' w.heap.size v' l'∨v'=v0∧l'=l0)∧Own w' w.heap.size vl x.lots
theorem qaF {P:Program} {o:Oper} {a:Act} {ty:TypeId} {x:Operand} {ad:Addr} {v:Value} {W:World} (ho:o.op=.load ty x) (hx:a.eval x=.pointer (some ad)) (h:(loadVar ty ad).run P W=.ok v W):(execOp a.eval o).run P W=.ok (.value v) W:=by
 unfold execOp;simp only [ho,hx,Instr.loadAt,Instr.sureAddr,Sem.run_bind,Sem.run_pure,Result.andThen_ok,h]
theorem Own.growS {w w':World} {B X:Nat} {v:Value} {l:List Lot} (h:Own w B v l) (hg:w.grownBy w' (some X)) (hX:X<B):Own w' B v l :=
 World.ownsRow.kept h hg (.inr fun e=>by have:=(h.lt X e).1;omega)
theorem EvRed.upG {B X:Nat} {la lb:List Lot} {v:Value} {x y:World} (h:EvRed B la lb v x) (hg:x.grownBy y (some X)) (hX:X<B):EvRed B la lb v y:=by
 obtain ⟨va,vb,h1,h2,h3⟩:=h;exact ⟨va,vb,h1,h2.growS hg hX,h3.growS hg hX⟩
theorem EvRed.base {B B':Nat} {la lb:List Lot} {v:Value} {x:World} (h:EvRed B la lb v x) (hB:B'≤B):EvRed B' la lb v x:=by
 obtain ⟨va,vb,h1,h2,h3⟩:=h;exact ⟨va,vb,h1,h2.base hB,h3.base hB⟩
theorem EvIss.upG {B X:Nat} {la:List Lot} {er:Int} {v:Value} {x y:World} (h:EvIss B la er v x) (hg:x.grownBy y (some X)) (hX:X<B):EvIss B la er v y:=by
 obtain ⟨va,h1,h2⟩:=h;exact ⟨va,h1,h2.growS hg hX⟩
theorem EvIss.base {B B':Nat} {la:List Lot} {er:Int} {v:Value} {x:World} (h:EvIss B la er v x) (hB:B'≤B):EvIss B' la er v x:=by
 obtain ⟨va,h1,h2⟩:=h;exact ⟨va,h1,h2.base hB⟩
theorem qfK {w:World} {B:Nat} {v:Value} {l:List Lot} (h:Own w B v l):(#[v]:Array Value).all (·.oneCell')=true:=by
 obtain ⟨A,c,rfl⟩:=Rd.form h.lots;simp [Value.oneCell']
theorem qoT {a b:World} {r:Option Nat} (h:a.grownBy b r):a.grownBy b.drew r:=⟨h.os,h.tape,h.output,h.size,h.block⟩
theorem At.drew1 {w:World} {b o:Nat} {cs:List Value} (h:At w b o cs):At w.drew b o cs:=⟨h.range,h.there,h.lt⟩
theorem Tryz.layRg:LaysAs Tryz.prog 40 #[.slice none 0 0]:=by intro o ho b w;unfold execOp;simp only [ho];rfl
theorem qdZ {w y:World} {r:Option Nat} (h:w.grownBy y r) (p:Addr) (v:Value) (hp:w.heap.size≤p.block):w.grownBy (y.setCell p v) r :=
 ⟨h.os,h.tape,h.output,by simpa [World.setCell] using h.size,fun k hk hr=>by rw [Below.heap_setCell _ _ _ _ (by omega)];exact h.block k hk hr⟩
theorem qfH (y:World) (b:Nat) (cs:List Value):y.grownBy (y.setCells b 0 cs) (some b):=by
 have h2:=qaC (B:=b) (b:=b) (Nat.le_refl _) cs 0 y (Below.refl _ _);exact ⟨h2.os,h2.tape,h2.output,h2.size,fun q hq hr=>qcC q b (fun e=>hr (by rw [e])) cs 0 y⟩
theorem qdJ {w y:World} {r:Option Nat} {b:Nat} (h:w.grownBy y r) (hb:w.heap.size≤b) (cs:List Value):w.grownBy (y.setCells b 0 cs) r:=by
 have h2:=qfH y b cs;exact ⟨h2.os.trans h.os,h2.tape.trans h.tape,h2.output.trans h.output,Nat.le_trans h.size h2.size,fun k hk hr=>by rw [h2.block k (Nat.lt_of_lt_of_le hk h.size) (fun e=>by injection e with e;omega)];exact h.block k hk hr⟩
theorem Cnt.sets {w:World} {g b:Nat} {v:Value} {co cb:List Value} {z ser:Int} (h:Cnt w g v co cb z ser) (hne:g≠b) (cs:List Value):Cnt (w.setCells b 0 cs) g v co cb z ser:=h.grown (qfH w b cs) hne
theorem Own.sets2 {w:World} {B b:Nat} {v:Value} {l:List Lot} (h:Own w B v l) (hne:v.ownBlock≠some b) (cs:List Value):Own (w.setCells b 0 cs) B v l:=World.ownsRow.kept h (qfH w b cs) (.inr hne)
theorem qzI {l:List Lot} {nm hl:ByteArray} (h1:checkB l=true) (h2:acctB nm hl=true):balN l nm hl=sumU (ownL nm hl l)∧balE l nm hl=0:=by
 unfold balN balE;rw [if_pos ⟨h1,h2⟩,if_neg (by rw [h1];decide),if_neg (by rw [h2];decide)];exact ⟨rfl,rfl⟩
theorem qvS {l:List Lot} {nm hl:ByteArray} {n:Int} (h1:checkB l=true) (h2:acctB nm hl=true) (h3:0≤n) (h4:n≤1000000000000000):redE l nm hl n=0∧redL l nm hl n=takeR nm hl l n:=by
 have e:redE l nm hl n=0:=by unfold redE;rw [if_neg (by rw [h1];decide),if_neg (by rw [h2];decide),if_neg (by omega)]
 exact ⟨e,by unfold redL;rw [if_pos e]⟩
theorem qjE {l:List Lot} {nm hl:ByteArray} (h:checkB l=true):0≤sumU (ownL nm hl l)∧sumU (ownL nm hl l)≤1000000000000000:=by
 obtain ⟨f1,f2,f3,f4,f5⟩:=qaS h;have h1:=(qjF nm hl l).1;have h2:=(qbJ (ownL nm hl l) (ownL nm hl l).length (fun x hx=>by have:=(qgR f5).1 x hx;omega)).2;have h3:=(qbJ (othL nm hl l) (othL nm hl l).length (fun x hx=>(qgR f5).2 x hx)).2;rw [List.take_length] at h2 h3;omega
theorem qvR {co cb cod crg:List Value} {A:Option Addr} {cap pl g:Nat} {z ser:Int} {o:Od} {l:List Lot} {bid:Qn} (hcod:cod=o.cells) (hcb:cb=ratZ bid.1 bid.2) (hp:Pc bid) (hz:z=(pl:Int)) (h6:pl≤6) (hO:Dl.Ask o) (hk:subs o=false) (hA:acctB o.nom o.hol=true) (hC:checkB l=true) (w:World)
  (hc:Cnt w g (.slice A l.length cap) co cb z ser) (hl:LotsAt w (.slice A l.length cap) l) :
  Calls Tryz.prog 56 #[.pointer (some ⟨g,0,none⟩),.agg cod.toArray] w (ExeP g (.slice A l.length cap) l co cb z ser (redO bid pl l o) w):=by
 obtain ⟨nS,hnS⟩:=nqx (l.length);rw [←hnS] at hc hl;obtain ⟨has,hhas⟩:=nqx (sumU (ownL o.nom o.hol l));have hasb:0≤has∧has≤1000000000000000:=by rw [hhas];exact qjE hC
 obtain ⟨RES,hRES⟩:=nqx (redO bid pl l o);have HRES:=hid (show RES=match redN bid pl has o with|.error e=>.error e|.ok (n,m)=>match redM bid pl n m with|.error e=>.error e|.ok m=>.ok ((takeR o.nom o.hol l n).1,noteO o n m (takeR o.nom o.hol l n).2) by rw [hRES,hhas];rfl);rw [←hRES];have V_cod:=hid (show cod=[.string o.key,.string o.nom,.string o.hol,.string o.fund,.string o.cls,.int .i64 o.kind,.int .i64 o.amount,.int .i64 o.units,.int .i64 o.at_,.int .i64 o.known,.bool o.void] from hcod);have V_cb:=hid (show cb=rat (decide (bid.1<0)) bid.1.natAbs false bid.2 from hcb);obtain ⟨ca,V_ca⟩:=nvx (acC o.nom o.hol);obtain ⟨crg,V_crg⟩:=nvx ([.slice A nS cap]);obtain ⟨cz,V_cz⟩:=nvx (ntC ⟨#[]⟩ ⟨#[]⟩ ⟨#[]⟩ 0 0 0 (.slice none 0 0));obtain ⟨cn,V_cn⟩:=nvx (ntC o.key o.nom o.hol o.kind 0 0 (.slice none 0 0))
 have HBAL:=hid (fun W (h:Below w.heap.size w W)=>show CB 87 #[.agg crg.toArray,.agg ca.toArray] (.tuple #[.int .i64 has,.int .i64 0]) W by
  rw [V_crg.out,V_ca.out,hnS]
  have:=qqW A cap l o.nom o.hol W (hnS ▸ hl.below h)
  rw [(qzI hC hA).1,(qzI hC hA).2,←hhas] at this;exact this)
 have HRED:=hid (fun n (h0:0≤n) (h1:n≤1000000000000000) W (h:Below w.heap.size w W)=>show Calls Tryz.prog 90 #[.agg crg.toArray,.agg ca.toArray,.int .i64 n] W (RedP (takeR o.nom o.hol l n).1 (takeR o.nom o.hol l n).2 0 W) by
  rw [V_crg.out,V_ca.out,hnS]
  have:=qtF _ l o.nom o.hol n W (hnS ▸ hl.below h)
  rw [(qvS hC hA h0 h1).1,(qvS hC hA h0 h1).2] at this;exact this)
 have HKD:=hid (show o.kind=3∨o.kind=4∨o.kind=5 by
  have h1:=hO.knd;unfold subs at hk;simp only [Bool.or_eq_false_iff,decide_eq_false_iff_not] at hk
  omega)
 have HAS:=hid hasb;have HOA:=hid hO
 have HRC:=hid (fun (r code:Int) (h:o.kind=4)=>qoE (mode:=4) (am:=o.amount) (most:=has) (r:=r) (code:=code) (g:=g) hcb hp hz h6 (by
  have:=hO.amt (.inr h);omega) (by have:=hO.amt (.inr h);omega) hasb.1 hasb.2)
 have HMN:=hid (fun (n r code:Int) (h0:0≤n) (h1:n≤1000000000000000)=>qoL (mode:=3) (k:=n) (r:=r) (code:=code) (g:=g) hcb hp hz h6 h0 h1 (.inl rfl));have HMP:=hid (fun q (hk4:o.kind=4) (hq:manyQ bid pl o.amount=some q)=>qmO hp h6 (by have:=hO.amt (.inr hk4);omega) hq);have HG:=hid hc.reg.lt;have Ag:=hid (show At w g 0 crg by rw [V_crg.out];exact hc.reg);have Ago:=hid hc.off;have Agb:=hid hc.bid;have Agp:=hid hc.pl;have Ags:=hid hc.ser;clear hnS hhas hasb hRES hcod hcb hp hz h6 hO hk hA hC hc hl;obtain ⟨B0,hB0⟩:=nqx (w.heap.size);obtain ⟨B1,hB1⟩:=nqx (w.heap.size+1);obtain ⟨w0,hw0⟩:∃ w0,w0=((w.alloc (.cells cod.toArray 58)).alloc (.cells #[.string ⟨#[]⟩,.string ⟨#[]⟩,.string ⟨#[]⟩,.int .i64 0,.int .i64 0,.int .i64 0,.slice none 0 0] 66)):=⟨_,rfl⟩;have AB0:=hid (show At w0 B0 0 cod by rw [hw0];exact ((show At (w.alloc (.cells cod.toArray 58)) B0 0 cod from At.fresh _ cod _ (by simp [hB0])).alloc _));have AB1:=hid (show At w0 B1 0 cz by rw [hw0];exact (show At ((w.alloc (.cells cod.toArray 58)).alloc (.cells #[.string ⟨#[]⟩,.string ⟨#[]⟩,.string ⟨#[]⟩,.int .i64 0,.int .i64 0,.int .i64 0,.slice none 0 0] 66)) B1 0 cz from (by rw [V_cz.out];exact At.fresh _ zeroNt _ (by simp [hB1]))));have FR:=hid (show Fr B0 w w0 by rw [hw0,hB0];exact ((Fr.start w).alloc _).alloc _);have FR0:=hid FR.out.le;have l01:B0<B1:=by omega
 have hZB1:B0≤B1:=by omega
 have hZB0:B0≤B0:=Nat.le_refl _;have HB0:=hid hB0;go_enter Tryz.func56,Tryz.ntmps56
 go_upto_region 1 with fail
 rw [←hw0,←hB1,←hB0];clear hw0 hB0 hB1;have AB0_a:=hid (show At w0 B0 1 ca by have h:=AB0.out;rw [V_cod.out] at h;rw [V_ca.out];exact At.sub (xs:=[.string o.key]) (ys:=acC o.nom o.hol) (zs:=_) h rfl);have HGB:=hid (show g<B0 by rw [HB0.out];exact HG.out);have lgB0:g<B0:=HGB.out;have hB0w:=hid (show Below w.heap.size w w0 by have:=FR.out.below;rwa [HB0.out] at this);replace Ag:=hid (Ag.out.below hB0w.out);replace Ago:=hid (Ago.out.below hB0w.out);replace Agb:=hid (Agb.out.below hB0w.out);replace Agp:=hid (Agp.out.below hB0w.out);replace Ags:=hid (Ags.out.below hB0w.out);refine wT [⟨true,7,6,8,0,0,66,23,cn,0,cn,[]⟩] [(17,pT B0 0),(18,.string o.key),(19,pT B0 1),(20,aT ca),(21,pT B0 5),(22,iT o.kind),(23,aT cn)] (by simp only [zu];rfl) (by kernel_rfl) rfl ?_ ?_ ?_ ?_
 ·intro W' hW';have z0:=((AB0.out.below hW').one (k:=0) (by rw [V_cod.out];rfl) (by rfl)).1;have z5:=((AB0.out.below hW').one (k:=5) (by rw [V_cod.out];rfl) (by rfl)).1;refine fxo ?_<|fxc z0 (fun W h=>by simp [loadVar,h,go_sem]) rfl<|fxo ?_<|fxl (abl AB0_a hW') (qkD V_ca.out) Tryz.underlying54 rfl rfl<|fxo ?_<|fxc z5 (fun W h=>by simp [loadVar,h,go_sem]) rfl<|fxb (jcR V_ca.out V_cn.out) rfl<|fxs rfl<|fxs rfl<|fxn;all_goals (go_big_quiet_step (fail);exact wqn rfl)
 ·exact fP1 (Tryz.alNt (qaY V_cn.out))
 ·exact fP1 (stw rfl (qaY V_cn.out) (qgS V_cn.out) (fun _=>rfl))
 intro β wx1 E;replace FR:=fnf FR E rfl;obtain ⟨b6,hb6,eb6⟩:=nwb E mms;have lB0_b6:B0<b6:=ltb AB0 eb6.1;have lB1_b6:B1<b6:=ltb AB1 eb6.1;have lg_b6:g<b6:=ltb Ag eb6.1;have hZb6:B0≤b6:=Nat.le_trans FR0.out eb6.1;replace AB0:=fnh AB0 E rfl;replace AB1:=fnh AB1 E rfl;replace AB0_a:=fnh AB0_a E rfl;replace Ag:=fnh Ag E rfl;replace Ago:=fnh Ago E rfl;replace Agb:=fnh Agb E rfl;replace Agp:=fnh Agp E rfl;replace Ags:=fnh Ags E rfl;have Ab6:=hid eb6.2;simp only [nP,zu];rw [←hb6];clear E eb6 hb6;go_upto_region 2 with fail
 refine wE [(25,pT g 0),(26,pT g 0),(27,pT g 0),(28,aT crg),(29,pT B0 1),(30,aT ca),(31,.tuple #[iT has,iT 0]),(24,.tuple #[iT has,iT 0]),(32,iT has),(33,iT 0),(7,iT has),(8,iT 0)] (by simp only [zu];rfl) (by kernel_rfl) ?_ ?_
 ·intro W' hW';have hWW:∀ p:GB,Below w.heap.size w (gw W' p.d p.os):=fun p=>(show Below w.heap.size w W' from (by have:=FR.out.below;rw [HB0.out] at this;exact this.trans (hW'.mono (by have:=FR.out.le;have:=HB0.out;omega)))).trans ((qbG W' p.d p.os).mono (by have h1:=FR.out.le;have h2:=HB0.out;have h3:=hW'.size;omega))
  refine fo3 ?_ ?_ ?_<|fxl (abl Ag hW') (qiY V_crg.out) Tryz.underlying40 rfl rfl<|fxo ?_<|fxl (abl AB0_a hW') (qkD V_ca.out) Tryz.underlying54 rfl rfl<|fo4 ?_ ?_ ?_ ?_<|fo2 ?_ ?_<|fxn;all_goals (go_big_quiet_step (exact qaA (HBAL.out _ (hWW ⟨_,_⟩)));exact wqn rfl)
 intro β wx2 E;replace FR:=fnf FR E rfl;replace AB0:=fnh AB0 E rfl;replace AB1:=fnh AB1 E rfl;replace AB0_a:=fnh AB0_a E rfl;replace Ag:=fnh Ag E rfl;replace Ago:=fnh Ago E rfl;replace Agb:=fnh Agb E rfl;replace Agp:=fnh Agp E rfl;replace Ags:=fnh Ags E rfl;replace Ab6:=fnh Ab6 E rfl;simp only [nP,zu];have y5:=(AB0.out.one (k:=5) (by rw [V_cod.out];rfl) (by rfl)).1;have y7:=(AB0.out.one (k:=7) (by rw [V_cod.out];rfl) (by rfl)).1;have y6:=(AB0.out.one (k:=6) (by rw [V_cod.out];rfl) (by rfl)).1
 go_upto_block 0 with fail
 have FX:=hid (Fr.start wx2)
 go_cut [9,10,11] from 37 (fun p9 p10 p11 wx=>∃ n m0:Int,redN bid pl has o=.ok (n,m0)∧p9=.int .i64 n∧0≤n∧n≤has∧At wx b6 0 (ntC o.key o.nom o.hol o.kind 0 m0 (.slice none 0 0))∧wx2.grownBy wx (some b6))
 case first =>
  have hAS:=HAS.out;have Ab6':=hid (show At wx2 b6 0 (ntC o.key o.nom o.hol o.kind 0 0 (.slice none 0 0)) by have:=Ab6.out;rwa [V_cn.out] at this);rcases HKD.out with hk|hk|hk
  ·have HK:=hid hk;have b3:(o.kind==3)=true:=by rw [hk];rfl
   have HU:=hid (HOA.out.unt (.inr hk));clear hk;go_wp2_with fail
   go_meet
   have h2:=HU.out;exact ⟨min has o.units,0,by unfold redN;rw [if_pos HK.out],rfl,by omega,by omega,Ab6'.out,qcM _ _⟩
  ·have HK:=hid hk;have b3:(o.kind==3)=false:=by rw [hk];rfl
   have b4:(o.kind==4)=true:=by rw [hk];rfl
   clear hk
   cases hq:manyQ bid pl o.amount with
   | none =>
    have HE:=hid (show RES=.error 10 by
     have e:redN bid pl has o=.error 10:=by unfold redN;rw [if_neg (by rw [HK.out];decide),if_pos HK.out,hq]
     rw [HRES.out,e])
    have HR4:=hid (HRC.out 0 10 HK.out (.inl ⟨hq,rfl,rfl⟩));clear hq;go_upto_region 8 with fail
    refine wE [(46,pT g 0),(47,pT g 0),(48,pT g 0),(49,pT g 67),(50,aT cb),(51,pT B0 6),(52,iT o.amount),(53,iT has),(54,.tuple #[iT 0,iT 10]),(45,.tuple #[iT 0,iT 10]),(55,iT 0),(56,iT 10),(10,iT 0),(11,iT 10)] (by simp only [zu];rfl) (by kernel_rfl) ?_ ?_
    ·intro W' hW';have hpl:=fun p:GB=>(((Agp.out.below hW').below (qbG W' p.d p.os)).one (k:=0) rfl rfl).1
     have hpt:=fun p:GB=>((Agp.out.below hW').below (qbG W' p.d p.os)).lt
     have z6:=((AB0.out.below hW').one (k:=6) (by rw [V_cod.out];rfl) (by rfl)).1;refine fo4 ?_ ?_ ?_ ?_<|lhR Agb hW' V_cb rfl<|fxo ?_<|fxc z6 (fun W h=>by simp [loadVar,h,go_sem]) rfl<|fo4 ?_ ?_ ?_ ?_<|fo3 ?_ ?_ ?_<|fxn;all_goals (go_big_quiet_step (exact qaA (HR4.out _ (hpt ⟨_,_⟩) (hpl ⟨_,_⟩)));exact wqn rfl)
    intro β wx3 E;replace FR:=fnf FR E rfl;replace AB1:=fnh AB1 E rfl;simp only [nP,zu];go_upto_region 10 with fail
    refine wF [⟨false,0,4,2,B1,0,66,59,cz,0,cz,[]⟩] [(59,aT cz),(60,iT 10),(5,iT 10)] (by simp only [zu];rfl) (by kernel_rfl) ?_ ?_ (fP1 bnC) ?_ uno ?_ ?_
    ·intro W' hW';refine fxb (qbX V_cz.out) rfl<|fxo ?_<|fxs rfl<|fxo ?_<|fxn;all_goals (go_big_quiet_step (fail);exact wqn rfl)
    ·intro W' hK';refine fxb (qbX V_cz.out) rfl<|fxi ?_<|fxs (by kernel_rfl)<|fxi ?_<|fxn;all_goals (first|(refine .inr ?_;go_big_quiet_step (fail);exact wqn rfl)|exact .inl (by kernel_rfl))
    ·exact fP1 (fun _=>rmh AB1 (qaY V_cz.out) (qaY V_cz.out) rfl)
    ·exact fP1 (stw rfl (qaY V_cz.out) (qgS V_cz.out) (fun _=>rfl))
    intro β wx4 E;replace FR:=ffh FR E (by omega);replace AB1:=aoh E AB1 mms;simp only [nP,zu];go_wp2_with fail
    have hld:=AB1.out.read (P:=Tryz.prog) Tryz.underlying66 rfl (qaY V_cz.out);refine bodyPost_ret (v:=.tuple #[.agg cz.toArray,.int .i64 10]) (by simp [results,Tryz.results56,asAddr,hld]) rfl ?_;rw [HE.out];exact ⟨qaM (by have:=FR.out.below;rwa [HB0.out] at this) _,by rw [V_cz.out];rfl⟩
   | some q =>
    obtain ⟨r,hr⟩:=nqx (reachC q has);have HR4:=hid (HRC.out r 0 HK.out (.inr ⟨q,hq,rfl,.inr ⟨rfl,hr⟩⟩));have HP:=hid (HMP.out q HK.out hq);have HE:=hid (show redN bid pl has o=if ceilQ q≤has then .ok (ceilQ q,o.amount) else .ok (has,0) by unfold redN;rw [if_neg (by rw [HK.out];decide),if_pos HK.out,hq]);have HRR:=hid hr;clear hq hr;go_upto_region 8 with fail
    refine wE [(46,pT g 0),(47,pT g 0),(48,pT g 0),(49,pT g 67),(50,aT cb),(51,pT B0 6),(52,iT o.amount),(53,iT has),(54,.tuple #[iT r,iT 0]),(45,.tuple #[iT r,iT 0]),(55,iT r),(56,iT 0),(10,iT r),(11,iT 0)] (by simp only [zu];rfl) (by kernel_rfl) ?_ ?_
    ·intro W' hW';have hpl:=fun p:GB=>(((Agp.out.below hW').below (qbG W' p.d p.os)).one (k:=0) rfl rfl).1
     have hpt:=fun p:GB=>((Agp.out.below hW').below (qbG W' p.d p.os)).lt
     have z6:=((AB0.out.below hW').one (k:=6) (by rw [V_cod.out];rfl) (by rfl)).1;refine fo4 ?_ ?_ ?_ ?_<|lhR Agb hW' V_cb rfl<|fxo ?_<|fxc z6 (fun W h=>by simp [loadVar,h,go_sem]) rfl<|fo4 ?_ ?_ ?_ ?_<|fo3 ?_ ?_ ?_<|fxn;all_goals (go_big_quiet_step (exact qaA (HR4.out _ (hpt ⟨_,_⟩) (hpl ⟨_,_⟩)));exact wqn rfl)
    intro β wx3 E;replace FX:=fnf FX E rfl;replace AB0:=fnh AB0 E rfl;replace Ab6:=fnh Ab6 E rfl;simp only [nP,zu];by_cases hle:ceilQ q≤has
    ·have HRE:=hid (show r=ceilQ q by rw [HRR.out];unfold reachC;rw [if_pos hle]);have HE2:=hid (show redN bid pl has o=.ok (ceilQ q,o.amount) by rw [HE.out,if_pos hle]);have HLE:=hid hle;have c1:r≤has:=by have:=HRE.out;omega
     clear hle;have y6:=(AB0.out.one (k:=6) (by rw [V_cod.out];rfl) (by rfl)).1;have n5:=(Ab6.out.one (k:=5) (v:=.int .i64 0) (by rw [V_cn.out];rfl) (by rfl));have n5c:=n5.1;have n5f:=n5.2;clear n5;go_upto_region 12 with fail
     go_region
     all_goals
      go_wp2_with fail
      go_meet
      have hr:=HRE.out;have hle:=HLE.out;have hp:=HP.out;refine ⟨ceilQ q,o.amount,HE2.out,by rw [←hr],hp.2.2,hle,?_,qoT (gBt (qaM FX.out.below _) (qbB _ rfl _))⟩
      have:=Ab6.out
      rw [V_cn.out] at this;exact At.drew1 (this.set (k:=5) (v:=.int .i64 o.amount) (by rfl) (by show 5<7;decide))
    ·have HE2:=hid (show redN bid pl has o=.ok (has,0) by rw [HE.out,if_neg hle]);have c1:¬r≤has:=by have:=HRR.out;unfold reachC at this;rw [if_neg hle] at this;omega
     clear hle;go_wp2_with fail
     go_meet
     have hAS:=HAS.out;exact ⟨has,0,HE2.out,rfl,hAS.1,Int.le_refl _,by have:=Ab6.out;rwa [V_cn.out] at this,qaM FX.out.below _⟩
  ·have HK:=hid hk;have b3:(o.kind==3)=false:=by rw [hk];rfl
   have b4:(o.kind==4)=false:=by rw [hk];rfl
   clear hk;go_wp2_with fail
   go_meet
   exact ⟨has,0,by unfold redN;rw [if_neg (by rw [HK.out];decide),if_neg (by rw [HK.out];decide)],rfl,hAS.1,Int.le_refl _,Ab6'.out,qcM _ _⟩
 case rest =>
  obtain ⟨n,m0,hN,rfl,hn0,hn1,hA6,hgr⟩:=hcut;have HN:=hid hN;have HNB:=hid (And.intro hn0 (show n≤1000000000000000 by have:=HAS.out;omega));have HA6:=hid hA6;clear hN hn0 hn1 hA6 FX y5 y6 y7;replace AB0:=hid (AB0.out.gro hgr (by omega));replace AB1:=hid (AB1.out.gro hgr (by omega));replace AB0_a:=hid (AB0_a.out.gro hgr (by omega));replace Ag:=hid (Ag.out.gro hgr (by omega));replace Ago:=hid (Ago.out.gro hgr (by omega));replace Agb:=hid (Agb.out.gro hgr (by omega));replace Agp:=hid (Agp.out.gro hgr (by omega));replace Ags:=hid (Ags.out.gro hgr (by omega));replace FR:=hid (FR.out.grown hgr (by omega));clear hgr Ab6;obtain ⟨c2,V_c2⟩:=nvx (ntC o.key o.nom o.hol o.kind 0 m0 (.slice none 0 0));have Ab6:=hid (show At wc b6 0 c2 by rw [V_c2.out];exact HA6.out);have n5:=(Ab6.out.one (k:=5) (v:=.int .i64 m0) (by rw [V_c2.out];rfl) (by rfl));have n5c:=n5.1;have n5f:=n5.2;clear n5 HA6
  go_upto_if 70 with fail
  have FX:=hid (Fr.start wc);obtain ⟨wd,hwd⟩:=nqx wc
  go_cut [12,13] from 70 (fun p12 p13 wx=>∃ m:Int,redM bid pl n m0=.ok m∧At wx b6 0 (ntC o.key o.nom o.hol o.kind 0 m (.slice none 0 0))∧wd.grownBy wx (some b6))
  case first =>
   by_cases hm:m0=0
   ·have HM:=hid hm;have bm:(m0==0)=true:=by rw [hm];rfl
    clear hm;have HRM:=hid (show redM bid pl n m0=moneyZ (worthQ bid pl n) (rndM 3) by unfold redM;rw [if_pos HM.out];rfl)
    cases hz:moneyZ (worthQ bid pl n) (rndM 3) with
    | error c =>
     have HE:=hid (show RES=.error c by rw [HRES.out,HN.out];simp only;rw [HRM.out,hz])
     have hc0:(c==0)=false:=by
      unfold moneyZ at hz;split at hz
      ·injection hz with hz;rw [←hz];rfl
      ·split at hz
       ·cases hz
       ·injection hz with hz;rw [←hz];rfl
     have HR4:=hid (HMN.out n 0 c HNB.out.1 HNB.out.2 (.inr ⟨hz,rfl⟩));clear hz;go_upto_region 14 with fail
     refine wE [(72,pT g 0),(73,pT g 0),(74,pT g 0),(75,pT g 67),(76,aT cb),(77,iT n),(78,.tuple #[iT 0,iT c]),(71,.tuple #[iT 0,iT c]),(79,iT 0),(80,iT c),(12,iT 0),(13,iT c)] (by simp only [zu];rfl) (by kernel_rfl) ?_ ?_
     ·intro W' hW';have hpl:=fun p:GB=>(((Agp.out.below hW').below (qbG W' p.d p.os)).one (k:=0) rfl rfl).1
      have hpt:=fun p:GB=>((Agp.out.below hW').below (qbG W' p.d p.os)).lt
      refine fo4 ?_ ?_ ?_ ?_<|lhR Agb hW' V_cb rfl<|fo4 ?_ ?_ ?_ ?_<|fo3 ?_ ?_ ?_<|fxn;all_goals (go_big_quiet_step (exact qaA (HR4.out _ (hpt ⟨_,_⟩) (hpl ⟨_,_⟩)));exact wqn rfl)
     intro β wx3 E;replace FR:=fnf FR E rfl;replace AB1:=fnh AB1 E rfl;simp only [nP,zu];go_upto_region 16 with fail
     refine wF [⟨false,0,4,2,B1,0,66,83,cz,0,cz,[]⟩] [(83,aT cz),(84,iT c),(5,iT c)] (by simp only [zu];rfl) (by kernel_rfl) ?_ ?_ (fP1 bnC) ?_ uno ?_ ?_
     ·intro W' hW';refine fxb (qbX V_cz.out) rfl<|fxo ?_<|fxs rfl<|fxo ?_<|fxn;all_goals (go_big_quiet_step (fail);exact wqn rfl)
     ·intro W' hK';refine fxb (qbX V_cz.out) rfl<|fxi ?_<|fxs (by kernel_rfl)<|fxi ?_<|fxn;all_goals (first|(refine .inr ?_;go_big_quiet_step (fail);exact wqn rfl)|exact .inl (by kernel_rfl))
     ·exact fP1 (fun _=>rmh AB1 (qaY V_cz.out) (qaY V_cz.out) rfl)
     ·exact fP1 (stw rfl (qaY V_cz.out) (qgS V_cz.out) (fun _=>rfl))
     intro β wx4 E;replace FR:=ffh FR E (by omega);replace AB1:=aoh E AB1 mms;simp only [nP,zu];go_wp2_with fail
     have hld:=AB1.out.read (P:=Tryz.prog) Tryz.underlying66 rfl (qaY V_cz.out);refine bodyPost_ret (v:=.tuple #[.agg cz.toArray,.int .i64 c]) (by simp [results,Tryz.results56,asAddr,hld]) rfl ?_;rw [HE.out];exact ⟨qaM (by have:=FR.out.below;rwa [HB0.out] at this) _,by rw [V_cz.out];rfl⟩
    | ok m =>
     have HE2:=hid (show redM bid pl n m0=.ok m by rw [HRM.out,hz]);have HR4:=hid (HMN.out n m 0 HNB.out.1 HNB.out.2 (.inl ⟨hz,rfl⟩));clear hz n5c n5f;go_upto_region 14 with fail
     refine wE [(72,pT g 0),(73,pT g 0),(74,pT g 0),(75,pT g 67),(76,aT cb),(77,iT n),(78,.tuple #[iT m,iT 0]),(71,.tuple #[iT m,iT 0]),(79,iT m),(80,iT 0),(12,iT m),(13,iT 0)] (by simp only [zu];rfl) (by kernel_rfl) ?_ ?_
     ·intro W' hW';have hpl:=fun p:GB=>(((Agp.out.below hW').below (qbG W' p.d p.os)).one (k:=0) rfl rfl).1
      have hpt:=fun p:GB=>((Agp.out.below hW').below (qbG W' p.d p.os)).lt
      refine fo4 ?_ ?_ ?_ ?_<|lhR Agb hW' V_cb rfl<|fo4 ?_ ?_ ?_ ?_<|fo3 ?_ ?_ ?_<|fxn;all_goals (go_big_quiet_step (exact qaA (HR4.out _ (hpt ⟨_,_⟩) (hpl ⟨_,_⟩)));exact wqn rfl)
     intro β wx3 E;replace FX:=fnf FX E rfl;replace Ab6:=fnh Ab6 E rfl;simp only [nP,zu];have n5:=(Ab6.out.one (k:=5) (v:=.int .i64 m0) (by rw [V_c2.out];rfl) (by rfl));have n5c:=n5.1;have n5f:=n5.2;clear n5;go_wp2_with fail
     go_meet
     refine ⟨m,HE2.out,?_,by rw [hwd];exact gBt (qaM FX.out.below _) (qbB _ rfl _)⟩
     have:=Ab6.out
     rw [V_c2.out] at this;exact this.set (k:=5) (by rfl) (by show 5<7;decide)
   ·have bm:(m0==0)=false:=beq_eq_false_iff_ne.2 hm;have HM:=hid hm;clear hm;go_wp2_with fail
    go_meet
    exact ⟨m0,by unfold redM;rw [if_neg HM.out],by have:=Ab6.out;rwa [V_c2.out] at this,by rw [hwd];exact qcM _ _⟩
  case rest =>
   obtain ⟨m,hM,hA6,hgr⟩:=hcut;have HE:=hid (show RES=.ok ((takeR o.nom o.hol l n).1,noteO o n m (takeR o.nom o.hol l n).2) by rw [HRES.out,HN.out];simp only;rw [hM]);have HA6:=hid hA6;rw [hwd] at hgr;clear hM hA6 FX n5c n5f hwd wd;replace AB0:=hid (AB0.out.gro hgr (by omega));replace AB1:=hid (AB1.out.gro hgr (by omega));replace AB0_a:=hid (AB0_a.out.gro hgr (by omega));replace Ag:=hid (Ag.out.gro hgr (by omega));replace Ago:=hid (Ago.out.gro hgr (by omega));replace Agb:=hid (Agb.out.gro hgr (by omega));replace Agp:=hid (Agp.out.gro hgr (by omega));replace Ags:=hid (Ags.out.gro hgr (by omega));replace FR:=hid (FR.out.grown hgr (by omega));clear hgr Ab6;obtain ⟨c3,V_c3⟩:=nvx (ntC o.key o.nom o.hol o.kind 0 m (.slice none 0 0));have Ab6:=hid (show At wc b6 0 c3 by rw [V_c3.out];exact HA6.out);obtain ⟨la,hla⟩:∃ la,la=(takeR o.nom o.hol l n).1:=⟨_,rfl⟩;obtain ⟨lb,hlb⟩:∃ lb,lb=(takeR o.nom o.hol l n).2:=⟨_,rfl⟩;have HR5:=hid (HRED.out n HNB.out.1 HNB.out.2);have HB3:=hid (show Below w.heap.size w wc by have:=FR.out.below;rwa [HB0.out] at this);rw [←hla,←hlb] at HR5 HE;clear hla hlb HA6;go_upto_region 18 with fail
   refine qfT [(0,88,.pointer (some ⟨g,0,none⟩)),(1,89,.pointer (some ⟨g,0,none⟩)),(2,90,.pointer (some ⟨g,0,none⟩)),(3,91,.agg crg.toArray),(4,92,.pointer (some ⟨B0,1,none⟩)),(5,93,.agg ca.toArray),(6,94,.int .i64 n)] 7 12 13 [8,9,10,11] (fun v=>[(8,87,v),(9,96,tix v 0),(10,97,tix v 1),(11,98,tix v 2)]) [14,15] (fun v=>[(14,15,tix v 1),(15,16,tix v 2)])
    95 14 40 (.tmp 14) (.tmp 96) #[.slice none 0 0] (fun v=>match tix v 0 with|.agg c=>c|_=>#[]) (fun B=>EvRed B la lb) undef _ (by kernel_rfl) (by kernel_rfl) (by rfl) (by rfl) (by rfl) (by rfl) (by rfl) (by rfl) (by rfl) (by rfl) (by rfl) (by rfl) (by rfl) (fun _=>rfl) (fun _=>rfl) Tryz.layRg (by kernel_rfl) (by simp only [putsA,List.foldl_cons,List.foldl_nil,zq]) ?_ ?_ (fun b v x y h hb=>h.upB hb) (fun b v x y X h hg hX=>h.upG hg hX) (fun b b' v x h hb=>h.base hb) ?_ (by intro p v;simp only [putsA,List.foldl_cons,List.foldl_nil,zq];rfl) (by intro p v;simp only [putsA,List.foldl_cons,List.foldl_nil,zq]) ?_ ?_ ?_
   ·have rg:=fun W (h:Below wc.heap.size wc W)=>(Ag.out.below h).read (P:=Tryz.prog) Tryz.underlying40 rfl (qiY V_crg.out)
    have ra:=fun W (h:Below wc.heap.size wc W)=>(AB0_a.out.below h).read (P:=Tryz.prog) Tryz.underlying54 rfl (qkD V_ca.out)
    refine ⟨⟨_,rfl,rfl,.inl ⟨by rfl,fun _ _=>by rfl⟩⟩,?_⟩;simp only [zq];refine ⟨⟨_,rfl,rfl,.inl ⟨by rfl,fun _ _=>by rfl⟩⟩,?_⟩;simp only [zq];refine ⟨⟨_,rfl,rfl,.inl ⟨by rfl,fun _ _=>by rfl⟩⟩,?_⟩;simp only [zq];refine ⟨⟨_,rfl,rfl,.inl ⟨by rfl,fun W hW=>qaF rfl rfl (rg W hW)⟩⟩,?_⟩;simp only [zq];refine ⟨⟨_,rfl,rfl,.inl ⟨by rfl,fun _ _=>by rfl⟩⟩,?_⟩;simp only [zq];refine ⟨⟨_,rfl,rfl,.inl ⟨by rfl,fun W hW=>qaF rfl rfl (ra W hW)⟩⟩,?_⟩;simp only [zq];refine ⟨⟨_,rfl,rfl,.inl ⟨by rfl,fun _ _=>by rfl⟩⟩,?_⟩;simp only [zq];exact trivial
   ·intro u W hW;simp only [putsA,List.foldl_cons,List.foldl_nil,zq];refine GY.callOf (f:=90) (args:=#[.agg crg.toArray,.agg ca.toArray,.int .i64 n]) (by simp [execOp,Act.eval,go_sem]) ((HR5.out _ (HB3.out.trans (hW.mono HB3.out.size))).mono ?_);rintro e w5 ⟨va,vb,rfl,h1,h2,hb⟩;exact ⟨_,rfl,hb,va,vb,rfl,h1,h2⟩
   ·rintro u b v W ⟨va,vb,rfl,_,_⟩;simp only [putsA,List.foldl_cons,List.foldl_nil,zq];refine ⟨⟨_,rfl,rfl,.inl ⟨by rfl,fun _ _=>by rfl⟩⟩,?_⟩;simp only [zq];refine ⟨⟨_,rfl,rfl,.inl ⟨by rfl,fun _ _=>by rfl⟩⟩,?_⟩;simp only [zq];refine ⟨⟨_,rfl,rfl,.inl ⟨by rfl,fun _ _=>by rfl⟩⟩,?_⟩;simp only [zq];refine ⟨⟨_,rfl,rfl,.inl ⟨by rfl,fun _ _=>by rfl⟩⟩,?_⟩;simp only [zq];exact trivial
   ·rintro p v b W ⟨va,vb,rfl,h1,h2⟩;exact ⟨rfl,rfl,rfl,qfK h1⟩
   ·rintro p v b W ⟨va,vb,rfl,_,_⟩;refine ⟨⟨_,rfl,rfl,.inl ⟨by rfl,fun _ _=>by rfl⟩⟩,?_⟩;simp only [zq];refine ⟨⟨_,rfl,rfl,.inl ⟨by rfl,fun _ _=>by rfl⟩⟩,?_⟩;simp only [zq];exact trivial
   rintro X v w4 hb4 hX hAX ⟨va,vb,rfl,oa,ob⟩;simp only [putsA,List.foldl_cons,List.foldl_nil,zq,tix];obtain ⟨A1,q1,rfl⟩:=Rd.form oa.lots;obtain ⟨A2,q2,rfl⟩:=Rd.form ob.lots;obtain ⟨N1,hN1⟩:=nqx (la.length);obtain ⟨N2,hN2⟩:=nqx (lb.length);rw [←hN1] at hAX oa ⊢;rw [←hN2] at ob ⊢;clear hN1 hN2;obtain ⟨va,hva⟩:=nqx (Value.slice A1 N1 q1);obtain ⟨vb,hvb⟩:=nqx (Value.slice A2 N2 q2);rw [←hva] at oa;rw [←hvb] at ob;have l6:=Ab6.out.lt;have l1:=AB1.out.lt
   have HD1:=hid (show va.ownBlock≠some b6∧vb.ownBlock≠some b6∧va.ownBlock≠some B1∧vb.ownBlock≠some B1∧va.ownBlock≠some g∧vb.ownBlock≠some g from
    ⟨fun e=>by have:=oa.lt _ e;omega,fun e=>by have:=ob.lt _ e;omega,fun e=>by have:=oa.lt _ e;omega,fun e=>by have:=ob.lt _ e;omega,fun e=>by have:=oa.lt _ e;omega,fun e=>by have:=ob.lt _ e;omega⟩)
   clear l6 l1;have HVA:=hid hva;have HVB:=hid hvb;clear hva hvb;have Ag4:=(Ag.out.below hb4);rw [V_crg.out] at Ag4;have HCN:=hid (show Cnt w4 g (.slice A nS cap) co cb z ser from ⟨Ag4,Ago.out.below hb4,Agb.out.below hb4,Agp.out.below hb4,Ags.out.below hb4⟩);have hx0:=(hAX.one (k:=0) (v:=.slice A1 N1 q1) rfl rfl).1;have g0:=(Ag4.one (k:=0) (v:=.slice A nS cap) rfl rfl).1;have g1:=(Ag4.one (k:=0) (v:=.slice A nS cap) rfl rfl).2;have A64:=Ab6.out.below hb4;rw [V_c3.out] at A64;have n4:=(A64.one (k:=4) (v:=.int .i64 0) rfl rfl).1;have n4f:=(A64.one (k:=4) (v:=.int .i64 0) rfl rfl).2;have n6:=(A64.one (k:=6) (v:=.slice none 0 0) rfl rfl).1;have n6f:=(A64.one (k:=6) (v:=.slice none 0 0) rfl rfl).2;have HA64:=hid A64;have HB14:=hid (AB1.out.below hb4);have hgb:g≠b6:=by omega
   have hbg:b6≠g:=by omega
   have hXs:B0≤X:=Nat.le_trans FR.out.le hX;have HOA:=hid (oa.base FR.out.le);have HOB:=hid (ob.base FR.out.le);have HB4:=hid (HB3.out.trans (hb4.mono HB3.out.size));clear Ag4 A64 oa ob hb4 hAX Ag Ago Agb Agp Ags AB0 AB0_a Ab6 HR5;go_upto_region 22 with fail
   obtain ⟨w5,hw5⟩:∃ w5,w5=((w4.setCell ⟨g,0,none⟩ (.slice A1 N1 q1)).setCell ⟨b6,4,none⟩ (.int .i64 n)).setCell ⟨b6,6,none⟩ (.slice A2 N2 q2):=⟨_,rfl⟩;rw [←hw5];rw [←HVA.out,←HVB.out] at hw5;obtain ⟨c5,V_c5⟩:=nvx (ntC o.key o.nom o.hol o.kind n m vb)
   have HL6:=hid (show At w5 b6 0 c5 by
    rw [hw5,V_c5.out];exact ((HA64.out.othSet ⟨g,0,none⟩ va hgb).set (k:=4) (v:=.int .i64 n) (by rfl) (by show 4<7;decide)).set (k:=6) (v:=vb) (by rfl) (by show 6<7;decide))
   have HT:=hid (show At w5 B1 0 cz by rw [hw5];exact ((HB14.out.othSet ⟨g,0,none⟩ va (by show g≠B1;omega)).othSet ⟨b6,4,none⟩ _ (by show b6≠B1;omega)).othSet ⟨b6,6,none⟩ vb (by show b6≠B1;omega));have HCN5:=hid (show Cnt w5 g va co cb z ser by rw [hw5];exact (HCN.out.setReg.oth ⟨b6,4,none⟩ hbg).oth ⟨b6,6,none⟩ hbg)
   have HOA5:=hid (show Own w5 B0 va la by
    rw [hw5];exact ((HOA.out.setCell _ _ HD1.out.2.2.2.2.1).setCell _ _ HD1.out.1).setCell _ _ HD1.out.1)
   have HOB5:=hid (show Own w5 B0 vb lb by
    rw [hw5];exact ((HOB.out.setCell _ _ HD1.out.2.2.2.2.2).setCell _ _ HD1.out.2.1).setCell _ _ HD1.out.2.1)
   have HGR:=hid (show w.grownBy w5 (some g) by
    rw [hw5];have e6:w.heap.size≤b6:=by have:=HB0.out;omega
    exact qdZ (qdZ (gBt (qaM HB4.out _) (qbB _ rfl _)) _ _ e6) _ _ e6)
   have HS5:=hid (show (Tryz.prog.info? 66).map (·.size)=some c5.toArray.size by rw [List.size_toArray];exact qaY V_c5.out);have HO5:=hid (show c5.toArray.all (·.oneCell')=true from qgS V_c5.out (by rw [HVB.out];rfl))
   have HT5:=hid (show w5.there B1 0 c5.toArray.size by
    have h1:c5.toArray.size=cz.length:=by rw [List.size_toArray,V_c5.out,V_cz.out];rfl
    rw [h1];exact HT.out.there)
   clear hw5 hx0 g0 g1 n4 n4f n6 n6f HCN HOA HOB HA64 HB14;go_wp2_with (first|(refine wpList_load_mid rfl _ _ rfl b6 0 rfl c5 _ HL6.out.range Tryz.underlying66 rfl (qaY V_c5.out) ?_)|(refine wpList_store_mid rfl _ _ _ rfl B1 0 _ rfl rfl HT5.out HS5.out HO5.out ?_))
   have A6:=HT.out.allSet (ds:=c5) (by rw [V_c5.out,V_cz.out];rfl);have hld:=A6.read (P:=Tryz.prog) Tryz.underlying66 rfl (qaY V_c5.out);refine bodyPost_ret (v:=.tuple #[.agg c5.toArray,.int .i64 0]) (by simp [results,Tryz.results56,asAddr,hld]) rfl ?_;rw [HE.out];have e1:w.heap.size≤B1:=by have:=HB0.out;omega
   refine ⟨qdJ HGR.out e1 _,va,vb,by rw [V_c5.out];rfl,HCN5.out.sets (by omega) _,?_,?_⟩
   ·left;rw [←HB0.out];exact HOA5.out.sets2 HD1.out.2.2.1 _
   ·rw [←HB0.out];exact HOB5.out.sets2 HD1.out.2.2.2.1 _
end Go.Proofs.YtemoddmadfoaiaaGreat
namespace Go.Proofs.YtemoddmadfoaiaaGreat
open Go.RowKit Big Reg Al Ap Ga
namespace Dl
theorem quA {l:List Lot} (h:checkB l=true):0≤sumU l∧sumU l≤1000000000000000:=by
 obtain ⟨f1,f2,f3,f4,f5⟩:=qaS h;have h2:=(qbJ l l.length (fun x hx=>by have:=f5 x hx;omega)).2;rw [List.take_length] at h2;exact ⟨h2,f3⟩
theorem take_sum {l:List Lot} (nm hl:ByteArray) (n:Int) (hn:0≤n) (hu:∀ x∈l,1≤x.units):sumU (takeR nm hl l n).1=sumU l - min n (sumU (ownL nm hl l)):=by
 have h:=jcZ (p:=fun _=>true) (fun _ _ _=>rfl) nm hl l n hn hu;rw [qqX (fun _ _=>rfl),qqX (fun _ _=>rfl),qqX (fun _ _=>rfl),qzZ nm hl l n hn hu] at h;omega
theorem qtZ {l:List Lot} {nm hl:ByteArray} {n:Int} (h:checkB l=true) (hn:0≤n):checkB (takeR nm hl l n).1=true:=by
 obtain ⟨f1,f2,f3,f4,f5⟩:=qaS h;have hu:∀ x∈l,1≤x.units:=fun x hx=>(f5 x hx).1
 have ho:=qjE (nm:=nm) (hl:=hl) h;refine qsJ (by have:=(quT nm hl l n).1;omega) (qnQ nm hl l n f4) (fun z hz=>?_) (by rw [take_sum nm hl n hn hu];omega);obtain ⟨a,y,hy,hk⟩:=(jaB nm hl l n hn hu).1 z hz;exact jgW hk (qsI h y hy) a
theorem qyQ {l:List Lot} {x:Lot} (h:checkB l=true) (hx:okLot x) (hl:(putL l x).length≤256) (hs:x.units≤1000000000000000 - sumU l):checkB (putL l x)=true:=by
 obtain ⟨f1,f2,f3,f4,f5⟩:=qaS h;exact qsJ hl (qqF l x f4) (jeJ jeS (qsI h) hx) (by rw [qwA];omega)
structure OkD (o:Od):Prop where
 ask:Dl.Ask o
 unt:o.kind=1→o.units=0
 acc:acctB o.nom o.hol=true
theorem jdH {o:Od} (h:okO o=true):OkD o:=by
 refine ⟨jhN h,fun hk=>?_,?_⟩
 ·unfold okO askO at h;simp only [Bool.and_eq_true] at h;have h2:=h.2.2;rw [if_pos (.inl hk)] at h2;simp only [Bool.and_eq_true,decide_eq_true_eq] at h2;exact h2.2
 ·unfold okO at h;simp only [Bool.and_eq_true] at h;exact h.2.1.1.1
theorem qrI {bid:Qn} {pl:Nat} {l l':List Lot} {o:Od} {x:Nt} (hp:Pc bid) (h3:pl≤6) (ho:OkD o) (hC:checkB l=true) (h:redO bid pl l o=.ok (l',x)):checkB l'=true:=by
 have hs:=qjE (nm:=o.nom) (hl:=o.hol) hC;obtain ⟨h1,h2,h4,h5⟩:=qvU hp h3 ho.ask hs.1 hs.2 h;rw [h4];exact qtZ hC h1.unt.1
theorem qrE {offer:Qn} {pl:Nat} {ser:Int} {l l':List Lot} {o:Od} {x:Nt} (hp:Pc offer) (h3:pl≤6) (ho:OkD o) (hk:subs o=true) (hs0:0≤ser) (hs1:ser≤73048) (hC:checkB l=true) (h:subO offer pl ser l o=.ok (l',x)):checkB l'=true:=by
 have hs:=quA hC;obtain ⟨h1,h2⟩:=qvE hp h3 ho.ask hk hs.1 h;rcases h2 with ⟨_,h2,_⟩|⟨g1,g2,g3,g4,_⟩
 ·rw [h2];exact hC
 ·rw [g3] at g4 ⊢;exact qyQ hC ⟨ho.acc,hs0,hs1,g1⟩ g4 g2
def selB (i:Nat) (o:Od):Bool:=if i=0 then !subs o else subs o
def exeO (offer bid:Qn) (pl:Nat) (ser:Int) (i:Nat) (l:List Lot) (o:Od):Except Int (List Lot × Nt):=if i=0 then redO bid pl l o else subO offer pl ser l o
def remO (offer bid:Qn) (pl:Nat) (ser:Int) (ts:List Tk) (i:Nat) (l:List Lot) (N:List Nt):Except Int (List Lot × List Nt) :=
 if i=0 then (match passP (selB 0) (exeO offer bid pl ser 0) ts 0 l N with|.error e=>.error e|.ok (l',N')=>passP (selB 1) (exeO offer bid pl ser 1) ts 0 l' N')
 else if i=1 then passP (selB 1) (exeO offer bid pl ser 1) ts 0 l N else .ok (l,N)
theorem jaN (offer bid:Qn) (pl:Nat) (ser:Int) (ts:List Tk) (i:Nat) (hi:i<2) (l:List Lot) (N:List Nt) :
  remO offer bid pl ser ts i l N=match passP (selB i) (exeO offer bid pl ser i) ts 0 l N with|.error e=>.error e|.ok (l',N')=>remO offer bid pl ser ts (i+1) l' N':=by
 obtain rfl|rfl:i=0∨i=1:=by omega
 ·rfl
 ·unfold remO;rw [if_neg (by omega),if_pos rfl]
  cases h:passP (selB 1) (exeO offer bid pl ser 1) ts 0 l N with
  | error e=>rfl
  | ok p=>obtain ⟨a,b⟩:=p;rfl
def nextO (offer bid:Qn) (pl:Nat) (ser:Int) (ts:List Tk) (i:Nat) (T:Except Int (List Lot × List Nt)):Except Int (List Lot × List Nt):=match T with|.error e=>.error e|.ok p=>remO offer bid pl ser ts (i+1) p.1 p.2
theorem jaO (offer bid:Qn) (pl:Nat) (ser:Int) (ts:List Tk) (i:Nat) (hi:i<2) (l:List Lot) (N:List Nt) :
  remO offer bid pl ser ts i l N=nextO offer bid pl ser ts i (passP (selB i) (exeO offer bid pl ser i) ts 0 l N):=by
 rw [jaN _ _ _ _ _ i hi];unfold nextO
 cases passP (selB i) (exeO offer bid pl ser i) ts 0 l N with
 | error e=>rfl
 | ok p=>rfl
theorem jfA {w:Option Qn} {f:Qn→Int} {c:Int} (h:moneyZ w f=.error c):c=10∨c=33:=by
 unfold moneyZ at h;split at h
 ·injection h with h;omega
 ·split at h
  ·cases h
  ·injection h with h;omega
theorem qvV {bid:Qn} {pl:Nat} {l:List Lot} {o:Od} {c:Int} (h:redO bid pl l o=.error c):c=10∨c=33:=by
 unfold redO at h;split at h
 ·rename_i e he
  injection h with h
  subst h;unfold redN at he;split at he
  ·cases he
  ·split at he
   ·split at he
    ·injection he with he;omega
    ·split at he<;>cases he
   ·cases he
 ·split at h
  ·rename_i e he
   injection h with h
   subst h;unfold redM at he;split at he
   ·exact jfA he
   ·cases he
  ·cases h
theorem qxL {ser:Int} {l:List Lot} {o:Od} {n m c:Int} (h:issO ser l o n m=.error c):c=253∨c=254:=by
 unfold issO at h;split at h
 ·injection h with h;omega
 ·split at h
  ·injection h with h;omega
  ·cases h
theorem qvF {offer:Qn} {pl:Nat} {ser:Int} {l:List Lot} {o:Od} {c:Int} (h:subO offer pl ser l o=.error c):c=10∨c=33∨c=253∨c=254:=by
 unfold subO at h;split at h
 ·split at h
  ·injection h with h;omega
  ·split at h
   ·injection h with h;omega
   ·split at h
    ·cases h
    ·have:=qxL h;omega
 ·split at h
  ·injection h with h;omega
  ·split at h
   ·injection h with h;omega
   ·split at h
    ·injection h with h;omega
    ·have:=qxL h;omega
theorem jfQ {offer bid:Qn} {pl:Nat} {ser:Int} {i:Nat} {l:List Lot} {o:Od} {c:Int} (h:exeO offer bid pl ser i l o=.error c):c≠0:=by
 unfold exeO at h;split at h
 ·have:=qvV h;omega
 ·have:=qvF h;omega
end Dl
end Go.Proofs.YtemoddmadfoaiaaGreat
namespace Go.Proofs.YtemoddmadfoaiaaGreat
open Go.RowKit Big Reg Ga Dl
namespace Dl
theorem jcG {l:List Lot} {ts:List Tk} {offer bid:Qn} {pl:Nat} {ser c:Int} (h:dealL l ts offer bid pl ser=.error c):c=10∨c=33∨c=253∨c=254:=by
 have pe:∀ (sel:Od→Bool) (f:List Lot→Od→Except Int (List Lot × Nt)) (hf:∀ l o c,f l o=.error c→c=10∨c=33∨c=253∨c=254) (ts:List Tk) (k:Nat) (l:List Lot) (N:List Nt) (c:Int),passP sel f ts k l N=.error c→c=10∨c=33∨c=253∨c=254:=by
  intro sel f hf ts
  induction ts with
  | nil=>intro k l N c h;cases h
  | cons t ts ih =>
   intro k l N c h;unfold passP at h;split at h
   ·split at h
    ·rename_i e he
     injection h with h
     subst h;exact hf _ _ _ he
    ·exact ih _ _ _ _ h
   ·exact ih _ _ _ _ h
 unfold dealL at h;split at h
 ·rename_i e he
  injection h with h
  subst h;exact pe _ _ (fun l o c h=>by rcases qvV h with h|h<;>omega) _ _ _ _ _ he
 ·exact pe _ _ (fun l o c h=>qvF h) _ _ _ _ _ h
end Dl
end Go.Proofs.YtemoddmadfoaiaaGreat
namespace Go.Proofs.YtemoddmadfoaiaaGreat
open Go.RowKit Reg
def rowOk (ops:Array Oper) (preI:List Nat) (ib i1:Nat) (midI:List Nat) (i2:Nat):Bool :=
 let T1:=takesL (Array.replicate ops.size false) preI
 let T2:=(T1.setIfInBounds ib true).setIfInBounds i1 true
 let T3:=takesL T2 midI
 takesB .any ops (Array.replicate ops.size false) preI&&decide (Region.ready .any ops T1=[ib,i1])&&decide (Region.ready .any ops (T1.setIfInBounds ib true)=[i1])&&decide (Region.ready .any ops (T1.setIfInBounds i1 true)=[ib])&&decide (T2=(T1.setIfInBounds i1 true).setIfInBounds ib true) &&
  takesB .any ops T2 midI&&decide (Region.ready .any ops T3=[i2])&&decide (Region.ready .any ops (T3.setIfInBounds i2 true)=[])&&Region.noSelect ops&&decide (ops.size=3+midI.length+preI.length)
theorem qkU {P:Program} {id:Nat} {Q:Exit→Act→World→Prop} {a:Act} {w:World} {l:List Oper} (pre mid:List (Nat × Tmp × Value)) (ib i1 i2:Nat) (db:Tmp) (S:World→Prop) (RA RF:Value→World→Prop) (F F':Value→Act) (S1:World→World) (S2:Value→World→World) {ob o1 o2:Oper} (hm:P.follows .mixedOrders=true) (hB:rowOk l.toArray (pre.map (·.1)) ib i1 (mid.map (·.1)) i2=true)
  (hob:l.toArray[ib]?=some ob) (ho1:l.toArray[i1]?=some o1) (ho2:l.toArray[i2]?=some o2) (gb:ob.guard=none) (g1:o1.guard=none) (g2:o2.guard=none) (hdb:ob.dst=some db) (hd1:o1.dst=none) (hd2:o2.dst=none)
  (hF:∀ v,(putsA a pre).put (some db) v=F v) (hF':∀ v,putsA (F v) mid=F' v)
  (hS0:S w.drew) (hypre:takesY P l.toArray S pre a) (hrow:GY P (putsA a pre) ob w.drew (fun v w''=>S w''∧RA v w''))
  (hA:∀ v W (K:Act→World→Prop),RA v W→(S (S1 W)→RF v (S1 W)→K ((F v).put o1.dst undef) (S1 W))→Oper.wp P o1 (F v) W K (NoPanic Q))
  (hB1:∀ (K:Act→World→Prop),(S (S1 w.drew)→K ((putsA a pre).put o1.dst undef) (S1 w.drew))→Oper.wp P o1 (putsA a pre) w.drew K (NoPanic Q)) (hB2:GY P (putsA a pre) ob (S1 w.drew) (fun v w''=>S w''∧RF v w''))
  (hmid:∀ v,takesY P l.toArray S mid (F v))
  (h2:∀ v W (K:Act→World→Prop),S W→RF v W→(S (S2 v W)→K ((F' v).put o2.dst undef) (S2 v W))→Oper.wp P o2 (F' v) W K (NoPanic Q))
  (hQ:∀ v W,RF v W→Q .normal (F' v) (S2 v W)):(Code.region id l.toArray true).wp P Q a w:=by
 simp only [rowOk,Bool.and_eq_true,decide_eq_true_eq] at hB;obtain ⟨⟨⟨⟨⟨⟨⟨⟨⟨k1,k2⟩,k3⟩,k4⟩,k5⟩,k6⟩,k7⟩,k8⟩,hs⟩,hsz⟩:=hB;refine wp_region_noPanic (wp_region_any hm (wpAny_of_held (S:=S) _ _ _ _ ?_));rw [List.length_map,List.length_map] at hsz;generalize Array.replicate l.toArray.size false=L0 at *
 rw [hsz];refine qaR hs _ hS0 _ pre _ _ k1 hypre ?_
 have tail:∀ v W,S W→RF v W→wpAnyH P .any l.toArray (NoPanic Q) S (1+mid.length) (((takesL L0 (pre.map (·.1))).setIfInBounds ib true).setIfInBounds i1 true) (F v) W:=by
  intro v W hS hR;refine qaR hs _ hS 1 mid _ _ k6 (hmid v) ?_;rw [hF'];refine wpAnyH_ready k7 (by simp) (AllReadyH.cons ho2 (fun K hK=>?_) AllReadyH.nil);rw [if_pos (by simp [Region.wanted,g2])];refine h2 v W K hS hR fun hS2=>hK.out _ _ hS2 fun _=>?_
  rw [hd2];exact wpAnyH_done k8 (NoPanic.normal (hQ v W hR)) _
 rw [show 3+mid.length=(1+mid.length)+1+1 by omega];refine wpAnyH_ready k2 (by simp) (AllReadyH.cons hob (fun K hK=>?_) (AllReadyH.cons ho1 (fun K hK=>?_) AllReadyH.nil))
 ·rw [if_pos (by simp [Region.wanted,gb])];refine GY.wp hrow ?_;rintro v w1 ⟨hS,hR⟩;refine hK.out _ _ hS fun _=>?_
  rw [hdb,hF];refine wpAnyH_ready k3 (by simp) (AllReadyH.cons ho1 (fun K hK=>?_) AllReadyH.nil);rw [if_pos (by simp [Region.wanted,g1])];refine hA v w1 K hR fun hS1 hRF=>hK.out _ _ hS1 fun _=>?_
  rw [hd1];exact tail v _ hS1 hRF
 ·rw [if_pos (by simp [Region.wanted,g1])];refine hB1 K fun hS1=>hK.out _ _ hS1 fun _=>?_
  rw [hd1];show wpAnyH P .any l.toArray (NoPanic Q) S _ _ (putsA a pre) _
  refine wpAnyH_ready k4 (by simp) (AllReadyH.cons hob (fun K hK=>?_) AllReadyH.nil);rw [if_pos (by simp [Region.wanted,gb])];refine GY.wp hB2 ?_;rintro v w1 ⟨hS,hR⟩;refine hK.out _ _ hS fun _=>?_
  rw [hdb,hF,←k5];exact tail v _ hS hR
theorem GY.rowB {P:Program} {fin:Act} {o:Oper} {W:World} {t e:TypeId} {len s:Nat} {parts:Array (Nat × Operand)} (vs:List Value) (ho:o.op=.buildSlice t len parts)
  (hparts:(parts.map fun (i,x)=>(i,fin.eval x)).toList=(vs.zipIdx 0).map fun x=>(x.2,x.1)) (hlen:len=vs.length) (hpos:0<len) (hs:0<s) (hcs:∀ v∈vs,v.cells.size=s) (hsmall:len*s≤2^24)
  (hu:P.underlying t=some (.slice e)) (hsz:(P.info? e).map (·.size)=some s) (hz:((P.info? e).bind (·.zero)).isSome=true) {D:Value→World→Prop} (hD:D (.slice (some ⟨W.heap.size,0,none⟩) len len) (W.alloc (.cells (vs.flatMap fun v=>v.cells.toList).toArray e))) :
  GY P fin o W D:=by
 cases hie:P.info? e with
 | none=>simp [hie] at hsz
 | some ie =>
  simp only [hie,Option.map_some,Option.some.injEq,Option.bind_some] at hsz hz;obtain ⟨z,hzz⟩:=Option.isSome_iff_exists.1 hz
  have hrun:(execOp fin.eval o).run P W=.ok (.value (.slice (some ⟨W.heap.size,0,none⟩) len len)) (W.alloc (.cells (vs.flatMap fun v=>v.cells.toList).toArray e)):=by
   unfold execOp;have hp:0<len*ie.size:=Nat.mul_pos hpos (by omega)
   simp only [ho,Sem.run_bind,run_buildSlice W t e len _ _ ie z hu hie hzz (by rw [hsz];omega) (by omega) (by
    rw [hparts,hsz];exact Great.fill_whole hs _ _ hcs (by simp [hlen])),Result.andThen_ok]
   rfl
  exact GY.value hrun hD
end Go.Proofs.YtemoddmadfoaiaaGreat
set_option maxHeartbeats 8000000
namespace Go.Proofs.YtemoddmadfoaiaaGreat
open Go.RowKit Big Reg Al Ga Dl Tok
open Lib (hid)
namespace Dl
def okTAt (l:List Tk) (k:Nat):Bool:=match l[k]? with
 | some x=>okA x.o&&!x.o.void&&!((l.take k).any fun c=>decide (c.o.key=x.o.key))
 | none=>true
def okT (l:List Tk):Bool:=decide (l.length≤64)&&(List.range l.length).all (okTAt l)
theorem qwN {l:List Tk} {k:Nat} (hk:k<l.length) (h:okTAt l k=false):okT l=false:=by
 unfold okT
 have:(List.range l.length).all (okTAt l)=false:=by rw [List.all_eq_false];exact ⟨k,List.mem_range.2 hk,by rw [h];decide⟩
 rw [this,Bool.and_false]
theorem qwM {l:List Tk} (h0:l.length≤64) (h:∀ k,k<l.length→okTAt l k=true):okT l=true:=by
 unfold okT;rw [decide_eq_true h0,Bool.true_and,List.all_eq_true];exact fun k hk=>h k (List.mem_range.1 hk)
theorem jeU {o:Od} (h:okA o=true):o.key.size≤16:=by
 have hh:headO o=true:=by
  unfold okA at h;split at h
  ·simp only [Bool.and_eq_true] at h;exact h.1
  ·unfold okO at h;simp only [Bool.and_eq_true] at h;exact h.1
 unfold headO at hh;simp only [Bool.and_eq_true] at hh;have h1:=hh.1.1;unfold Reg.nameB at h1;simp only [Bool.and_eq_true,decide_eq_true_eq] at h1;exact h1.1.1.2
end Dl
theorem qpM {l:List Tk} {k:Nat} (s:ByteArray):(((l.take k).map fun t=>t.o.key).any fun t=>decide (t=s))=(l.take k).any fun c=>decide (c.o.key=s):=by
 rw [List.any_map];rfl
theorem jcA (k:Int) (w:World):CB 58 #[.int .i64 k] (.bool (decide (k=1) || decide (k=2))) w:=by
 by_cases h1:k=1
 ·subst h1;go_enter Tryz.func58,Tryz.ntmps58
  go_wp2
  go_ret
  exact ⟨rfl,Below.refl _ _⟩
 ·by_cases h2:k=2
  ·subst h2;go_enter Tryz.func58,Tryz.ntmps58
   go_wp2
   go_ret
   exact ⟨rfl,Below.refl _ _⟩
  ·have b1:(k==1)=false:=beq_eq_false_iff_ne.2 h1;have b2:(k==2)=false:=beq_eq_false_iff_ne.2 h2;go_enter Tryz.func58,Tryz.ntmps58
   go_wp2
   go_ret
   exact ⟨qaI (by simp [h1,h2]),Below.refl _ _⟩
theorem qtX (v:Value) (l:List Tk) (w:World) (h:TksAt w v l) :
  Calls Tryz.prog 55 #[v] w (OutE (okT l) 260 w):=by
 obtain ⟨A,cap,hv⟩:=Rd.form h;have hmx:=h.2.1;by_cases h64:64<l.length
 ·have HF:=hid (show okT l=false by unfold okT;rw [decide_eq_false (by omega),Bool.false_and]);obtain ⟨n,hnn⟩:=nqx (l.length);rw [←hnn] at hv h64;have h64':(64:Int)<(n:Int):=by omega
  subst hv;clear h hmx h64 hnn;go_enter Tryz.func55,Tryz.ntmps55
  go_wp2
  go_ret
  exact ⟨by rw [HF.out];rfl,Below.refl _ _⟩
 ·have hc0:∀ k x,l[k]?=some x→∃ g off,A=some ⟨g,off,none⟩∧g<w.heap.size∧∀ j u,x.cells[j]?=some u→w.cell? ⟨g,off+k*13+j,none⟩=some u:=by
   intro k x hx;have hk:=(List.getElem?_eq_some_iff.1 hx).1;obtain ⟨g,off,cap',e,hc⟩:=qrB h (by omega);rw [hv] at e;injection e with e1 e2 e3
   exact ⟨g,off,e1,World.block_lt_of_cell? w _ (hc k x hx 0 _ rfl),fun j u hu=>hc k x hx j u hu⟩
  obtain ⟨n,hnn⟩:=nqx (l.length);rw [←hnn] at hv hmx h64;have h64':¬(64:Int)<(n:Int):=by omega
  subst hv;have HN:=hid hnn;have HC:=hid hc0;clear hnn hc0 h;obtain ⟨M,hM⟩:=nqx (w.heap.size);have HMM:=hid hM;have hmm:=@run_makeMap Tryz.prog;go_enter Tryz.func55,Tryz.ntmps55
  go_wp2
  rw [←hM];clear hM hmm;go_loopg [12] n (fun m i wr=>∃ (k:Nat),k≤n∧n - k≤m∧i=.int .i64 k∧(∀ j,j<k→okTAt l j=true)∧SetB wr M ((l.take k).map fun t=>t.o.key)∧Below w.heap.size w wr)
  case atStart=>exact ⟨0,by omega,by omega,rfl,fun j hj=>absurd hj (by omega),by rw [HMM.out];exact SetB.made w,(Below.refl _ _).alloc (Nat.le_refl _) _⟩
  case round =>
   obtain ⟨k,hk,hm,rfl,hok,hset,hbl⟩:=hrel;have HOK:=hid hok;have HS:=hid hset;have HB0:=hid hbl;have hsz:=hbl.size;have hMlt:=hset.lt;clear hok hset hbl;by_cases hlt:k<n
   ·obtain ⟨x,hx⟩:∃ x,l[k]?=some x:=⟨l[k]'(by rw [←HN.out];exact hlt),by simp [←HN.out,hlt]⟩;obtain ⟨g,off,rfl,hg,hcx⟩:=HC.out k x hx;have HX:=hid hx;clear hx;have c0:=qcU (hcx 0 (.string x.o.key) rfl) HB0.out;have c1:=qcU (hcx 1 (.string x.o.nom) rfl) HB0.out;have c2:=qcU (hcx 2 (.string x.o.hol) rfl) HB0.out;have c3:=qcU (hcx 3 (.string x.o.fund) rfl) HB0.out;have c4:=qcU (hcx 4 (.string x.o.cls) rfl) HB0.out;have c5:=qcU (hcx 5 (.int .i64 x.o.kind) rfl) HB0.out;have c6:=qcU (hcx 6 (.int .i64 x.o.amount) rfl) HB0.out;have c7:=qcU (hcx 7 (.int .i64 x.o.units) rfl) HB0.out;have c8:=qcU (hcx 8 (.int .i64 x.o.at_) rfl) HB0.out;have c9:=qcU (hcx 9 (.int .i64 x.o.known) rfl) HB0.out;have c10:=qcU (hcx 10 (.bool x.o.void) rfl) HB0.out;have c11:=qcU (hcx 11 (.int .i64 x.day) rfl) HB0.out;have c12:=qcU (hcx 12 (.int .i64 x.first) rfl) HB0.out;rw [Nat.add_zero] at c0;clear hcx;go_upto_region 7 with fail
    obtain ⟨W1,hW1⟩:=nqx (wr.alloc (.cells #[.string x.o.key,.string x.o.nom,.string x.o.hol,.string x.o.fund,.string x.o.cls,.int .i64 x.o.kind,.int .i64 x.o.amount,.int .i64 x.o.units,.int .i64 x.o.at_,.int .i64 x.o.known,.bool x.o.void,.int .i64 x.day,.int .i64 x.first] 60));have hbW:Below wr.heap.size wr W1:=by rw [hW1];exact (Below.refl _ _).alloc (Nat.le_refl _) _
    obtain ⟨X,hX⟩:=nqx (wr.heap.size);have x0:W1.cell? ⟨X,0,none⟩=some (.string x.o.key):=by rw [hW1,hX];go_cell
    have x1:W1.cell? ⟨X,1,none⟩=some (.string x.o.nom):=by rw [hW1,hX];go_cell
    have x2:W1.cell? ⟨X,2,none⟩=some (.string x.o.hol):=by rw [hW1,hX];go_cell
    have x3:W1.cell? ⟨X,3,none⟩=some (.string x.o.fund):=by rw [hW1,hX];go_cell
    have x4:W1.cell? ⟨X,4,none⟩=some (.string x.o.cls):=by rw [hW1,hX];go_cell
    have x5:W1.cell? ⟨X,5,none⟩=some (.int .i64 x.o.kind):=by rw [hW1,hX];go_cell
    have x6:W1.cell? ⟨X,6,none⟩=some (.int .i64 x.o.amount):=by rw [hW1,hX];go_cell
    have x7:W1.cell? ⟨X,7,none⟩=some (.int .i64 x.o.units):=by rw [hW1,hX];go_cell
    have x8:W1.cell? ⟨X,8,none⟩=some (.int .i64 x.o.at_):=by rw [hW1,hX];go_cell
    have x9:W1.cell? ⟨X,9,none⟩=some (.int .i64 x.o.known):=by rw [hW1,hX];go_cell
    have x10:W1.cell? ⟨X,10,none⟩=some (.bool x.o.void):=by rw [hW1,hX];go_cell
    have HS1:=hid (HS.out.below hbW);rw [←hW1,←hX];have HBW:=hid (HB0.out.trans (hbW.mono HB0.out.size));clear hW1 hbW c0 c1 c2 c3 c4 c5 c6 c7 c8 c9 c10 c11 c12 hX
    cases h1:okA x.o with
    | false =>
     have H1:=hid (qwO x.o 230 (by rw [h1];rfl));have HNO:=hid (show okTAt l k=false by simp [okTAt,HX.out,h1]);clear h1;go_wp2_with (go_at_call 86;refine (H1.out _).mono ?_;rintro e W2 ⟨rfl,hbn⟩;have HBN:=hid (HBW.out.trans (hbn.mono HBW.out.size));have z0:=qcU x0 hbn;have z10:=qcU x10 hbn;have HS2:=hid (HS1.out.below hbn);clear x0 x1 x2 x3 x4 x5 x6 x7 x8 x9 x10 hbn)
     go_ret
     exact ⟨by rw [qwN (l:=l) (by rw [←HN.out];exact hlt) HNO.out];rfl,HBN.out⟩
    | true =>
     have H1:=hid (qwO x.o 0 (by rw [h1];rfl));have HSM:=hid (show x.o.key.size≤maxLen by have:=jeU h1;unfold maxLen;omega)
     cases h2:x.o.void with
     | true =>
      rw [h2] at x10 H1;have HNO:=hid (show okTAt l k=false by simp [okTAt,HX.out,h2]);clear h1;go_wp2_with (go_at_call 86;refine (H1.out _).mono ?_;rintro e W2 ⟨rfl,hbn⟩;have HBN:=hid (HBW.out.trans (hbn.mono HBW.out.size));have z0:=qcU x0 hbn;have z10:=qcU x10 hbn;have HS2:=hid (HS1.out.below hbn);clear x0 x1 x2 x3 x4 x5 x6 x7 x8 x9 x10 hbn)
      go_ret
      exact ⟨by rw [qwN (l:=l) (by rw [←HN.out];exact hlt) HNO.out];rfl,HBN.out⟩
     | false =>
      rw [h2] at x10 H1
      cases h3:((l.take k).any fun c=>decide (c.o.key=x.o.key)) with
      | true =>
       have HNO:=hid (show okTAt l k=false by simp only [okTAt,HX.out];rw [h3];simp);clear h1;go_wp2_with (go_at_call 86;refine (H1.out _).mono ?_;rintro e W2 ⟨rfl,hbn⟩;have HBN:=hid (HBW.out.trans (hbn.mono HBW.out.size));have z0:=qcU x0 hbn;have z10:=qcU x10 hbn;have HS2:=hid (HS1.out.below hbn);have hlk:=HS2.out.look x.o.key (HSM.out);rw [qpM,h3] at hlk;clear x0 x1 x2 x3 x4 x5 x6 x7 x8 x9 x10 hbn)
       go_ret
       exact ⟨by rw [qwN (l:=l) (by rw [←HN.out];exact hlt) HNO.out];rfl,HBN.out⟩
      | false =>
       have HYES:=hid (show okTAt l k=true by simp only [okTAt,HX.out];rw [h1,h2,h3];rfl);clear h1;go_upto_region 9 with (go_at_call 86;refine (H1.out _).mono ?_;rintro e W2 ⟨rfl,hbn⟩;have HBN:=hid (HBW.out.trans (hbn.mono HBW.out.size));have z0:=qcU x0 hbn;have z10:=qcU x10 hbn;have HS2:=hid (HS1.out.below hbn);have hlk:=HS2.out.look x.o.key (HSM.out);rw [qpM,h3] at hlk;clear x0 x1 x2 x3 x4 x5 x6 x7 x8 x9 x10 hbn)
       have hlk2:((l.take k).map fun t=>t.o.key).length<maxLen:=by simp;unfold maxLen;omega
       go_wp2_with (at_mapUpdate;refine qpS _ rfl _ _ _ rfl M _ x.o.key rfl HS2.out HSM.out hlk2 rfl rfl ?_;intro W3 hset hgrow;have HS3:=hid (show SetB W3 M ((l.take (k+1)).map fun t=>t.o.key) by (rw [List.take_add_one,HX.out,List.map_append];exact hset));have HB3:=hid (show Below w.heap.size w W3 from HBN.out.grown hgrow HBN.out.size (by intro r hr;injection hr with hr;rw [←hr,HMM.out];exact Nat.le_refl _));clear hset hgrow)
       go_roundg (gk - 1)
       case measure=>omega
       case rel=>exact ⟨k+1,by omega,by omega,by go_num,fun j hj=>by
        by_cases hjk:j=k
        ·rw [hjk,HYES.out]
        ·exact HOK.out j (by omega),HS3.out,HB3.out⟩
   ·go_wp2
    go_ret
    exact ⟨by rw [qwM (l:=l) (by rw [←HN.out];omega) (fun j hj=>HOK.out j (by rw [←HN.out] at hj;omega))];rfl,HB0.out⟩
end Go.Proofs.YtemoddmadfoaiaaGreat
namespace Go.Proofs.YtemoddmadfoaiaaGreat
open Go.RowKit Reg
def lineOk (ops:Array Oper) (preI:List Nat) (i1:Nat) (midI:List Nat) (i2:Nat) (finI:List Nat):Bool :=
 let T1:=takesL (Array.replicate ops.size false) preI
 let T2:=T1.setIfInBounds i1 true
 let T3:=takesL T2 midI
 let T4:=T3.setIfInBounds i2 true
 takesB .any ops (Array.replicate ops.size false) preI&&decide (Region.ready .any ops T1=[i1])&&takesB .any ops T2 midI&&decide (Region.ready .any ops T3=[i2])&&takesB .any ops T4 finI&&decide (Region.ready .any ops (takesL T4 finI)=[])&&Region.noSelect ops&&decide (ops.size=2+finI.length+midI.length+preI.length)
theorem qjX {P:Program} {id:Nat} {Q:Exit→Act→World→Prop} {a:Act} {w:World} {l:List Oper} (pre:List (Nat × Tmp × Value)) (mid:Value→List (Nat × Tmp × Value)) (fin:Value→Value→List (Nat × Tmp × Value)) (i1 i2:Nat) (midI finI:List Nat) (d1 d2:Tmp) (S:World→Prop) (R1:Value→World→Prop) (R2:Value→Value→World→Prop) (F1:Value→Act) (F2:Value→Value→Act) {o1 o2:Oper}
  (hm:P.follows .mixedOrders=true) (hB:lineOk l.toArray (pre.map (·.1)) i1 midI i2 finI=true) (ho1:l.toArray[i1]?=some o1) (ho2:l.toArray[i2]?=some o2) (g1:o1.guard=none) (g2:o2.guard=none) (hd1:o1.dst=some d1) (hd2:o2.dst=some d2)
  (hmI:∀ v,(mid v).map (·.1)=midI) (hfI:∀ v u,(fin v u).map (·.1)=finI)
  (hF1:∀ v,putsA ((putsA a pre).put (some d1) v) (mid v)=F1 v) (hF2:∀ v u,putsA ((F1 v).put (some d2) u) (fin v u)=F2 v u)
  (hS0:S w.drew) (hypre:takesY P l.toArray S pre a)
  (hE1:∀ K:Act→World→Prop,(∀ v w1,S w1→R1 v w1→K ((putsA a pre).put o1.dst v) w1)→Oper.wp P o1 (putsA a pre) w.drew K (NoPanic Q))
  (hmid:∀ v w1,R1 v w1→takesY P l.toArray S (mid v) ((putsA a pre).put (some d1) v))
  (hE2:∀ v w1 (K:Act→World→Prop),S w1→R1 v w1→(∀ u w2,S w2→R2 v u w2→K ((F1 v).put o2.dst u) w2)→Oper.wp P o2 (F1 v) w1 K (NoPanic Q))
  (hfin:∀ v u w2,R2 v u w2→takesY P l.toArray S (fin v u) ((F1 v).put (some d2) u))
  (hQ:∀ v u w2,R2 v u w2→Q .normal (F2 v u) w2):(Code.region id l.toArray true).wp P Q a w:=by
 simp only [lineOk,Bool.and_eq_true,decide_eq_true_eq] at hB;obtain ⟨⟨⟨⟨⟨⟨⟨k1,k2⟩,k3⟩,k4⟩,k5⟩,k6⟩,hs⟩,hsz⟩:=hB;refine wp_region_noPanic (wp_region_any hm (wpAny_of_held (S:=S) _ _ _ _ ?_));rw [List.length_map] at hsz;generalize Array.replicate l.toArray.size false=L0 at *
 rw [hsz];refine qaR hs _ hS0 _ pre _ _ k1 hypre ?_;rw [show 2+finI.length+midI.length=(1+finI.length+midI.length)+1 by omega];refine wpAnyH_ready k2 (by simp) (AllReadyH.cons ho1 (fun K hK=>?_) AllReadyH.nil);rw [if_pos (by simp [Region.wanted,g1])];refine hE1 K fun v w1 hS hR=>hK.out _ _ hS fun _=>?_
 rw [hd1];have hm0:midI.length=(mid v).length:=by rw [←hmI v,List.length_map]
 rw [hm0];rw [←hmI v] at k3 k4 k5 k6;refine qaR hs _ hS _ (mid v) _ _ k3 (hmid v w1 hR) ?_;rw [hF1,show 1+finI.length=finI.length+1 by omega];refine wpAnyH_ready k4 (by simp) (AllReadyH.cons ho2 (fun K hK=>?_) AllReadyH.nil);rw [if_pos (by simp [Region.wanted,g2])];refine hE2 v w1 K hS hR fun u w2 hS2 hR2=>hK.out _ _ hS2 fun _=>?_
 rw [hd2];rw [←hfI v u] at k5 k6;rw [show finI.length=0+(fin v u).length by rw [←hfI v u,List.length_map];omega];refine qaR hs _ hS2 0 (fin v u) _ _ k5 (hfin v u w2 hR2) ?_;rw [hF2];exact wpAnyH_done k6 (NoPanic.normal (hQ v u w2 hR2)) _
end Go.Proofs.YtemoddmadfoaiaaGreat
