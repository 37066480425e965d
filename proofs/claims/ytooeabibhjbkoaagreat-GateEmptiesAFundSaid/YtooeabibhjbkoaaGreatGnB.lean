import Derived.Test.YtooeabibhjbkoaaGreatGmB
import Derived.Test.YtooeabibhjbkoaaGreatGnQ
import Derived.Test.YtooeabibhjbkoaaGreatGkA
import Derived.Test.YtooeabibhjbkoaaGreatGmD
set_option linter.unusedVariables false
set_option linter.unusedSimpArgs false
namespace Go.Proofs.YtooeabibhjbkoaaGreat
open Go.RowKit Big Reg Al Ap Ga
theorem allowM (net:Int) {cr:List Value} {p q:Nat} (hcr:cr=rat false p false q) (hp:p<BB^32) (hq:q<BB^32) (v:Value) (l:List Rq) (w:World) (h:RqsAt w v l) (hl:l.length≤19) (hE:allowE net false false p q l=if l.length=0 then some 0 else none) :
  Calls Tryz.prog 10 #[.int .i64 net,.agg cr.toArray,v] w fun e w'=>Below w.heap.size w w'∧∃ vx outs,e=.returned (.tuple #[vx,.int .i64 0])∧Outs (roomZ net p q) l outs∧Rd w' 1 vx outs.length (cI outs):=by
 refine (allow_any net hcr hp hq v l w h (.inl hl)).mono ?_
 rintro e w' ⟨hb,⟨c,hc,rfl⟩|⟨hc,g,outs,rfl,h2,h3,h4,h5⟩⟩
 ·rw [hE] at hc
  split at hc
  ·rename_i h0
   injection hc with hc
   subst hc
   have:l=[]:=List.length_eq_zero_iff.1 h0
   exact ⟨hb,_,[],rfl,by subst this;exact ⟨[],⟨rfl,.inl ⟨Nat.zero_le _,rfl⟩⟩,rfl⟩,Rd.nil w'⟩
  ·cases hc
 ·have hol:=(outs_at h5).1
  refine ⟨hb,_,outs,rfl,h5,?_⟩
  rw [←hol]
  exact ⟨by rw [cI_len];omega,by omega,_,_,rfl,fun _=>⟨g,0,rfl,fun j u hu=>(h4.at h3).range j u hu⟩⟩
end Go.Proofs.YtooeabibhjbkoaaGreat
