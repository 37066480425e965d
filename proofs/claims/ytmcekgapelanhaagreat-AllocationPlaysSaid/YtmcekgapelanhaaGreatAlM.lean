import Derived.Test.YtmcekgapelanhaaGreatAlH
import Derived.Test.YtmcekgapelanhaaGreatAlJ
set_option linter.unusedVariables false
set_option linter.unusedSimpArgs false
namespace Go.Proofs.YtmcekgapelanhaaGreat
open Go.RowKit Al Tok Ap
namespace Al
end Al
end Go.Proofs.YtmcekgapelanhaaGreat
namespace Go.Proofs.YtmcekgapelanhaaGreat
open Go.RowKit Al Tok Ap
theorem form_own {w:World} {b n s:Nat} {v:Value} {xs:List Value} {t:TypeId} (h:w.ownsRow b t s v n xs) (hn:0<n):∃ g cap,v=.slice (some ⟨g,0,none⟩) n cap∧b≤g∧g<w.heap.size:=by
 obtain ⟨h1,h2⟩:=h
 rcases h2 with ⟨rfl,h2⟩|⟨g,cap,cur,hv,hg,hr⟩
 ·omega
 ·refine ⟨g,cap,hv,hg,?_⟩
  rcases Nat.lt_or_ge g w.heap.size with h|h
  ·exact h
  ·have:=hr.1;rw [Array.getElem?_eq_none h] at this;cases this
namespace Al
end Al
end Go.Proofs.YtmcekgapelanhaaGreat
