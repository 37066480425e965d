import Derived.Test.YtmcekgapelanhaaGreatAlH
import Derived.Test.YtmcekgapelanhaaGreatAlJ
set_option linter.unusedVariables false
set_option linter.unusedSimpArgs false
namespace Go.Proofs.YtmcekgapelanhaaGreat
open Go.RowKit Al Tok Ap
namespace Al
end Al
end Go.Proofs.YtmcekgapelanhaaGreat
namespace Go.Proofs.YtmcekgapelanhaaGreat
open Go.RowKit Al Tok Ap
theorem form_own {w:World} {b n s:Nat} {v:Value} {xs:List Value} {t:TypeId} (h:w.ownsRow b t s v n xs) (hn:0<n):∃ g cap,v=.slice (some ⟨g,0,none⟩) n cap∧b≤g∧g<w.heap.size:=by
 obtain ⟨h1,h2⟩:=h
 rcases h2 with ⟨rfl,h2⟩|⟨g,cap,cur,hv,hg,hr⟩
 ·omega
 ·refine ⟨g,cap,hv,hg,?_⟩
  rcases Nat.lt_or_ge g w.heap.size with h|h
  ·exact h
  ·have:=hr.1;rw [Array.getElem?_eq_none h] at this;cases this
namespace Al
theorem cellsB_set:∀ (l:List Bk) (i:Nat) (b c:Bk) (j:Nat) (u:Value),l[i]?=some b→c.cells=b.cells.set j u→j<5→cellsB (l.set i c)=(cellsB l).set (i*5+j) u:=by
 intro l
 induction l with
 | nil=>intro i b c j u h;simp at h
 | cons a l ih =>
  intro i b c j u h hc hj
  cases i with
  | zero =>
   simp only [List.getElem?_cons_zero,Option.some.injEq] at h
   subst h
   simp only [List.set_cons_zero,cellsB,List.flatMap_cons,Nat.zero_mul,Nat.zero_add]
   rw [List.set_append_left _ _ (by simp [Bk.cells];omega),hc]
  | succ i =>
   simp only [List.getElem?_cons_succ] at h
   have:=ih i b c j u h hc hj
   simp only [List.set_cons_succ,cellsB,List.flatMap_cons] at this ⊢
   rw [List.set_append_right _ _ (by simp [Bk.cells];omega),this]
   congr 2
   simp [Bk.cells];omega
end Al
end Go.Proofs.YtmcekgapelanhaaGreat
