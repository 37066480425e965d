import Derived.Test.YtnkmhbiklffjlaaProg
import Derived.WalkKit
import Derived.Lib.Hide
import Derived.Deep.LoopGhost
import Derived.Deep.Light
import Derived.WalkSpells
import Derived.WalkLawsBesides
import Derived.Deep.RegionWith
import Derived.Deep.RegionHeld3
import Derived.Handy
import Derived.BigQuiet
set_option linter.unusedVariables false
set_option linter.unusedSimpArgs false
namespace Go.Proofs.Ytnkmhbiklffjlaa
open Go.RowKit
theorem ret_bool {a b:Bool} (h:a=b):Ending.returned (.bool a)=.returned (.bool b):=by rw [h]
theorem ret_int {k:IntKind} {a b:Int} (h:a=b):Ending.returned (.int k a)=.returned (.int k b):=by rw [h]
theorem ownsRow_below {w w':World} {b:Nat} {e:TypeId} {size:Nat} {v:Value} {n:Nat} {xs:List Value} (h:w.ownsRow b e size v n xs) (hb:Below w.heap.size w w'):w'.ownsRow b e size v n xs :=
 h.kept (row:=none) ⟨hb.os,hb.tape,hb.output,hb.size,fun k h _=>hb.block k h⟩ (by cases v.ownBlock<;>simp)
theorem cell_alloc {w:World} {a:Addr} {v:Value} (h:w.cell? a=some v) (o:Obj):(w.alloc o).cell? a=some v:=by
 have hlt:a.block<w.heap.size:=World.block_lt_of_cell? w a h
 rw [←h]
 exact World.cell?_of_block (Below.heap_alloc w o a.block hlt)
theorem cells_new (w:World) (l:List Value) (t:TypeId):∀ j u,l[j]?=some u→(w.alloc (.cells l.toArray t)).cell? ((⟨w.heap.size,0,none⟩:Addr).add j)=some u:=by
 intro j u hu
 have hadd:(⟨w.heap.size,0,none⟩:Addr).add j=⟨w.heap.size,j,none⟩:=by unfold Addr.add;split<;>simp_all
 rw [hadd,cell_of_row _ w.heap.size j l.toArray t (0,0) (heap_alloc_new w _)]
 simpa using hu
theorem small_maxLen {n:Nat} (h:n≤1000000000):n≤maxLen:=by unfold maxLen;omega
def Reads (w:World) (size:Nat) (v:Value) (n:Nat) (xs:List Value):Prop :=
 xs.length=n*size∧n≤9223372036854775807∧((v=.slice none 0 0∧n=0)∨∃ g off cap,v=.slice (some ⟨g,off,none⟩) n cap∧∀ j u,xs[j]?=some u→w.cell? ⟨g,off+j,none⟩=some u)
theorem Reads.of_own {w:World} {b:Nat} {e:TypeId} {size:Nat} {v:Value} {n:Nat} {xs:List Value} (h:w.ownsRow b e size v n xs):Reads w size v n xs:=by
 have hc:=fun g=>h.cells (g:=g)
 obtain ⟨h1,h2⟩:=h
 refine ⟨h1,?_⟩
 rcases h2 with ⟨rfl,h2⟩|⟨g,cap,cur,hv,hg,hh,hn,hm,_⟩
 ·exact ⟨by omega,.inl ⟨rfl,h2⟩⟩
 ·refine ⟨by unfold maxLen at hm;omega,.inr ⟨g,0,cap,hv,fun j u hu=>?_⟩⟩
  have:=hc g (by rw [hv];rfl) j u hu
  have hadd:(⟨g,0,none⟩:Addr).add j=⟨g,0+j,none⟩:=by unfold Addr.add;split<;>simp_all
  rwa [hadd] at this
theorem qcU {w w':World} {a:Addr} {v:Value} (h:w.cell? a=some v) (hb:Below w.heap.size w w'):w'.cell? a=some v:=by
 rw [hb.cell (World.block_lt_of_cell? w _ h)];exact h
theorem Reads.below {w w':World} {size:Nat} {v:Value} {n:Nat} {xs:List Value} (h:Reads w size v n xs) (hb:Below w.heap.size w w'):Reads w' size v n xs:=by
 obtain ⟨h1,h2,h3⟩:=h
 refine ⟨h1,h2,?_⟩
 rcases h3 with h3|⟨g,off,cap,hv,hc⟩
 ·exact .inl h3
 ·refine .inr ⟨g,off,cap,hv,fun j u hu=>?_⟩
  have h:=hc j u hu
  rw [hb.cell (World.block_lt_of_cell? w _ h)]
  exact h
theorem Reads.some {w:World} {size:Nat} {v:Value} {n:Nat} {xs:List Value} (h:Reads w size v n xs) (hn:n≠0):∃ g off cap,v=.slice (some ⟨g,off,none⟩) n cap∧∀ j u,xs[j]?=some u→w.cell? ⟨g,off+j,none⟩=some u:=by
 rcases h.2.2 with ⟨_,h⟩|h
 ·exact absurd h hn
 ·exact h
theorem Reads.zero {w:World} {size:Nat} {v:Value} {n:Nat} {xs:List Value} (h:Reads w size v n xs) (hn:n=0):∃ a cap,v=.slice a 0 cap:=by
 rcases h.2.2 with ⟨h,_⟩|⟨g,off,cap,h,_⟩
 ·exact ⟨_,_,h⟩
 ·exact ⟨_,_,by rw [h,hn]⟩
def IsTape (w:World) (bt at_:Nat):Prop:=∃ a len cap,w.cell? ⟨bt,0,none⟩=some (.slice a len cap)∧w.cell? ⟨bt,1,none⟩=some (.int .i64 at_)∧(∀ o,w.frozen? ⟨bt,o,none⟩=false)∧len≤9223372036854775807 ∧
 (∀ j,j<len→∃ b off v,a=some ⟨b,off,none⟩∧b<bt∧w.cell? ⟨b,off+j,none⟩=some (.int .i64 v))
theorem grownBy_refl (w:World) (row:Option Nat):w.grownBy w row:=⟨rfl,rfl,rfl,Nat.le_refl _,fun _ _ _=>rfl⟩
theorem gBt {a b c:World} {row:Option Nat} (h:a.grownBy b row) (k:b.grownBy c row):a.grownBy c row :=
 ⟨k.os.trans h.os,k.tape.trans h.tape,k.output.trans h.output,Nat.le_trans h.size k.size,fun i hi hr=>(k.block i (Nat.lt_of_lt_of_le hi h.size) hr).trans (h.block i hi hr)⟩
theorem grownBy_drewN {a b:World} {row:Option Nat} (h:a.grownBy b row) (n:Nat):a.grownBy (b.drewN n) row:=⟨h.os,h.tape,h.output,h.size,h.block⟩
theorem below_grownBy {B:Nat} {a b:World} {bt:Nat} (h:a.grownBy b (some bt)) (hb:B≤bt) (hB:B≤a.heap.size):Below B a b:=⟨h.os,h.tape,h.output,h.size,fun k hk=>h.block k (by omega) (fun e=>by injection e with e;omega)⟩
theorem grownBy_setCell {w:World} {bt:Nat} (p:Addr) (hp:p.block=bt) (v:Value):w.grownBy (w.setCell p v) (some bt) :=
 ⟨rfl,rfl,rfl,by simp [World.setCell],fun k hk hr=>Below.heap_setCell _ _ _ _ (fun e=>hr (by rw [e,hp]))⟩
theorem IsTape.lt {w:World} {bt at_:Nat} (h:IsTape w bt at_):bt<w.heap.size:=by
 obtain ⟨a,len,cap,h0,_⟩:=h
 exact World.block_lt_of_cell? w _ h0
theorem IsTape.below {w w':World} {bt at_:Nat} (h:IsTape w bt at_) (hb:Below w.heap.size w w'):IsTape w' bt at_:=by
 have hlt:=h.lt
 obtain ⟨a,len,cap,h0,h1,h2,h3,h4⟩:=h
 refine ⟨a,len,cap,qcU h0 hb,qcU h1 hb,fun o=>by rw [hb.frozen (p:=⟨bt,o,none⟩) hlt];exact h2 o,h3,fun j hj=>?_⟩
 obtain ⟨b,off,v,e,hne,hc⟩:=h4 j hj
 exact ⟨b,off,v,e,hne,qcU hc hb⟩
theorem IsTape.step {w:World} {bt at_:Nat} (h:IsTape w bt at_) (at':Nat):IsTape (w.setCell ⟨bt,1,none⟩ (.int .i64 at')) bt at':=by
 obtain ⟨a,len,cap,h0,h1,h2,h3,h4⟩:=h
 refine ⟨a,len,cap,?_,?_,fun o=>by rw [World.frozen?_setCell];exact h2 o,h3,fun j hj=>?_⟩
 ·rw [World.cell?_setCell_other _ _ _ _ (by simp)];exact h0
 ·exact World.cell?_setCell_same _ _ _ h1
 ·obtain ⟨b,off,v,e,hne,hc⟩:=h4 j hj
  exact ⟨b,off,v,e,hne,by rw [World.cell?_setCell_other _ _ _ _ (fun e=>by injection e with e1;omega)];exact hc⟩
theorem IsTape.grown {w w':World} {bt at_:Nat} {row:Option Nat} (h:IsTape w bt at_) (hg:w.grownBy w' row) (hr:∀ k,row=some k→bt<k):IsTape w' bt at_:=by
 have hlt:=h.lt
 obtain ⟨a,len,cap,h0,h1,h2,h3,h4⟩:=h
 have hb:∀ b,b≤bt→w'.heap[b]?=w.heap[b]?:=fun b hb=>hg.block b (by omega) (fun e=>by have:=hr b e.symm;omega)
 refine ⟨a,len,cap,?_,?_,fun o=>?_,h3,fun j hj=>?_⟩
 ·rw [World.cell?_of_block (w:=w) (hb bt (Nat.le_refl _))];exact h0
 ·rw [World.cell?_of_block (w:=w) (hb bt (Nat.le_refl _))];exact h1
 ·rw [World.frozen?_of_block (w:=w) (hb bt (Nat.le_refl _))];exact h2 o
 ·obtain ⟨b,off,v,e,hne,hc⟩:=h4 j hj
  exact ⟨b,off,v,e,hne,by rw [World.cell?_of_block (w:=w) (hb b (by omega))];exact hc⟩
def IsRow (k:IntKind) (w:World) (a:Option Addr) (len cap:Nat) (zs:List Int):Prop :=
 (a=none∧len=0∧cap=0∧zs=[]) ∨
 ∃ x,a=some x∧len≤cap∧cap≤maxLen∧zs.length=cap∧(∀ i,i<zs.length→w.cell? (x.add i)=some (.int k (zs.getD i 0)))∧∀ n∈zs,(Lit.int k n).wf=true
theorem IsRow.tape {w:World} {a:Option Addr} {len cap:Nat} {z:List Int} (h:IsRow .i64 w a len cap z) (T:TypeId):IsTape (w.alloc (.cells #[.slice a len cap,.int .i64 0] T)) w.heap.size 0:=by
 have c0:(w.alloc (.cells #[.slice a len cap,.int .i64 0] T)).cell? ⟨w.heap.size,0,none⟩=some (.slice a len cap):=by go_cell
 have c1:(w.alloc (.cells #[.slice a len cap,.int .i64 0] T)).cell? ⟨w.heap.size,1,none⟩=some (.int .i64 0):=by go_cell
 have hz:∀ o,(w.alloc (.cells #[.slice a len cap,.int .i64 0] T)).frozen? ⟨w.heap.size,o,none⟩=false:=fun o=>by simp
 rcases h with ⟨rfl,rfl,rfl,rfl⟩|⟨x,rfl,h1,h2,h3,h4,h5⟩
 ·exact ⟨_,_,_,c0,c1,hz,by omega,fun j hj=>absurd hj (by omega)⟩
 ·refine ⟨_,_,_,c0,c1,hz,by unfold maxLen at h2;omega,fun j hj=>?_⟩
  have hc:=h4 j (by omega)
  obtain ⟨b,off,spot⟩:=x
  have h0:=h4 0 (by omega)
  have hspot:spot=none:=by simpa [Addr.add] using World.cell?_spot h0
  subst hspot
  have hadd:(⟨b,off,none⟩:Addr).add j=⟨b,off+j,none⟩:=by unfold Addr.add;split<;>simp_all
  rw [hadd] at hc
  have hlt:b<w.heap.size:=World.block_lt_of_cell? w _ hc
  exact ⟨b,off,_,rfl,by omega,cell_alloc hc _⟩
theorem IsTape.alloc {w:World} {bt at_:Nat} (h:IsTape w bt at_) (o:Obj):IsTape (w.alloc o) bt at_:=h.below ((Below.refl _ _).alloc (Nat.le_refl _) _)
end Go.Proofs.Ytnkmhbiklffjlaa
