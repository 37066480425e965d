import Derived.Test.YtemoddmadfoaiaaGreatApB
import Derived.Test.YtemoddmadfoaiaaGreatApP
set_option linter.unusedVariables false
set_option linter.unusedSimpArgs false
namespace Go.Proofs.YtemoddmadfoaiaaGreat
open Go.RowKit Ap
namespace Ap
end Ap
def Row (w:World) (d off:Nat) (l:List Int):Prop:=(∀ k x,l[k]?=some x→w.cell? ⟨d,off+k,none⟩=some (.int .i64 x))∧∀ o,w.frozen? ⟨d,o,none⟩=false
theorem Row.set {w:World} {d off:Nat} {l:List Int} (h:Row w d off l) (k:Nat) (x:Int):Row (w.setCell ⟨d,off+k,none⟩ (.int .i64 x)) d off (l.set k x):=by
 refine ⟨fun j y hj=>?_,fun o=>by rw [World.frozen?_setCell];exact h.2 o⟩;by_cases e:j=k
 ·subst e;rw [List.getElem?_set_self'] at hj
  cases hq:l[j]? with
  | none=>rw [hq] at hj;simp at hj
  | some z =>
   rw [hq] at hj
   have:x=y:=by simpa using hj
   subst this;exact World.cell?_setCell_same _ _ _ (h.1 j z hq)
 ·rw [List.getElem?_set_ne (by omega)] at hj;rw [World.cell?_setCell_other _ _ _ _ (fun e=>by injection e with e1 e2;omega)];exact h.1 j y hj
theorem Row.grown {w w':World} {d off:Nat} {l:List Int} {row:Option Nat} (h:Row w d off l) (hg:w.grownBy w' row) (hr:row≠some d) (hd:d<w.heap.size):Row w' d off l:=by
 have hb:=hg.block d hd (fun e=>hr e.symm);exact ⟨fun k x hk=>by rw [World.cell?_of_block (w:=w) hb];exact h.1 k x hk,fun o=>by rw [World.frozen?_of_block (w:=w) hb];exact h.2 o⟩
theorem Row.drewN {w:World} {d off:Nat} {l:List Int} (h:Row w d off l) (n:Nat):Row (w.drewN n) d off l:=h
def Cmp (w:World) (B d:Nat) (rs:List Nat):Prop:=∃ g off n cap,w.cell? ⟨B,0,none⟩=some (.slice (some ⟨g,off,none⟩) n cap)∧n=rs.length∧(∀ (k x:Nat),rs[k]?=some x→w.cell? ⟨g,off+k,none⟩=some (.int .i64 (x:Int)))∧B≠d∧g≠d∧B<w.heap.size∧g<w.heap.size∧(∀ x∈rs,x≤4000000000000000000)
theorem Cmp.grown {w w':World} {B d:Nat} {rs:List Nat} (h:Cmp w B d rs) (hg:w.grownBy w' (some d)):Cmp w' B d rs:=by
 obtain ⟨g,off,n,cap,h1,h2,h3,h4,h5,h6,h7,h8⟩:=h;have hs:=hg.size;refine ⟨g,off,n,cap,?_,h2,fun k x hk=>?_,h4,h5,by omega,by omega,h8⟩
 ·rw [World.cell?_of_block (w:=w) (hg.block B h6 (fun e=>h4 (by injection e)))];exact h1
 ·rw [World.cell?_of_block (w:=w) (hg.block g h7 (fun e=>h5 (by injection e)))];exact h3 k x hk
end Go.Proofs.YtemoddmadfoaiaaGreat
