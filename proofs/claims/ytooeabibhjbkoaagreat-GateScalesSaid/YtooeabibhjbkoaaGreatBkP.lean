import Derived.Test.YtooeabibhjbkoaaGreatBigQ
set_option linter.unusedVariables false
set_option linter.unusedSimpArgs false
namespace Go.Proofs.YtooeabibhjbkoaaGreat
namespace Big
theorem qvU {X V j n v2 u3 q:Nat} (hn:2≤n) (hv:v2=V / BB^(n - 2)) (hu:u3=X / BB^(j+n - 2)) (hq:q=X / (V*BB^j)):q*v2≤u3:=by
 have h1:q*(V*BB^j)≤X:=by rw [hq];exact Nat.div_mul_le_self _ _
 have h2:v2*BB^(n - 2)≤V:=by rw [hv];exact Nat.div_mul_le_self _ _
 rw [hu,Nat.le_div_iff_mul_le (BP _)]
 have e:BB^(j+n - 2)=BB^(n - 2)*BB^j:=by rw [←Nat.pow_add];congr 1;omega
 rw [e]
 calc q*v2*(BB^(n - 2)*BB^j)=q*(v2*BB^(n - 2)*BB^j):=by simp only [Nat.mul_assoc]
  _≤q*(V*BB^j):=Nat.mul_le_mul_left _ (Nat.mul_le_mul_right _ h2)
  _≤X:=h1
theorem qzG {X V j n v2 u3 q g:Nat} (hn:2≤n) (hv:v2=V / BB^(n - 2)) (hu:u3=X / BB^(j+n - 2)) (hq:q=X / (V*BB^j)) (hV:BB^(n - 1)≤V) (hg:g*v2≤u3) (hgB:g<BB):g≤q+1:=by
 have hVp:0<V*BB^j:=Nat.mul_pos (Nat.lt_of_lt_of_le (BP _) hV) (BP j)
 have h1:V<(v2+1)*BB^(n - 2):=by rw [hv];exact Nat.lt_mul_of_div_lt (Nat.lt_succ_self _) (BP _)
 have h2:u3*BB^(j+n - 2)≤X:=by rw [hu];exact Nat.div_mul_le_self _ _
 have e:BB^(j+n - 2)=BB^(n - 2)*BB^j:=by rw [←Nat.pow_add];congr 1;omega
 have e2:BB^(n - 1)=BB*BB^(n - 2):=by rw [←qcK];congr 1;omega
 have h3:g*(V*BB^j)≤X+g*(BB^(n - 2)*BB^j):=by
  calc g*(V*BB^j)≤g*((v2+1)*BB^(n - 2)*BB^j):=Nat.mul_le_mul_left _ (Nat.mul_le_mul_right _ (Nat.le_of_lt h1))
   _=g*v2*(BB^(n - 2)*BB^j)+g*(BB^(n - 2)*BB^j):=by
    rw [Nat.add_mul,Nat.add_mul,Nat.mul_add,Nat.one_mul];simp only [Nat.mul_assoc]
   _≤u3*(BB^(n - 2)*BB^j)+g*(BB^(n - 2)*BB^j):=Nat.add_le_add_right (Nat.mul_le_mul_right _ hg) _
   _≤X+g*(BB^(n - 2)*BB^j):=by rw [←e];exact Nat.add_le_add_right h2 _
 have h4:g*(BB^(n - 2)*BB^j)<V*BB^j:=by
  calc g*(BB^(n - 2)*BB^j)<BB*(BB^(n - 2)*BB^j):=Nat.mul_lt_mul_of_pos_right hgB (Nat.mul_pos (BP _) (BP _))
   _=BB^(n - 1)*BB^j:=by rw [e2,Nat.mul_assoc]
   _≤V*BB^j:=Nat.mul_le_mul_right _ hV
 have h5:g*(V*BB^j)<X+V*BB^j:=by omega
 have h6:=Nat.div_add_mod X (V*BB^j)
 rw [←hq] at h6
 have h7:=Nat.mod_lt X hVp
 have h8:g*(V*BB^j)<(q+2)*(V*BB^j):=by
  rw [Nat.add_mul]
  have:V*BB^j*q=q*(V*BB^j):=Nat.mul_comm _ _
  omega
 have:=Nat.lt_of_mul_lt_mul_right h8
 omega
theorem quS {X V P g i j c b b2 tl th w:Nat} (h:P+g*(V%BB^i)*BB^j=X+(c+b)*BB^(i+j)) (ht:g*lim V i+c=tl+th*BB) (hw:w+tl+b=lim P (i+j)+b2*BB) :
  upd P (i+j) w+g*(V%BB^(i+1))*BB^j=X+(th+b2)*BB^(i+1+j):=by
 have u:=qfN P (i+j) w
 have e1:g*(V%BB^(i+1))*BB^j=g*(V%BB^i)*BB^j+g*lim V i*BB^(i+j):=by
  rw [qaR V,Nat.mul_add,Nat.add_mul,Nat.pow_add];simp only [Nat.mul_assoc]
 have e2:(th+b2)*BB^(i+1+j)=(th*BB+b2*BB)*BB^(i+j):=by
  rw [show i+1+j=(i+j)+1 by omega,qcK,←Nat.add_mul,Nat.mul_assoc]
 rw [e1,e2]
 have f1:=congrArg (·*BB^(i+j)) ht
 have f2:=congrArg (·*BB^(i+j)) hw
 simp only [Nat.add_mul] at f1 f2 h ⊢
 omega
theorem quG {P V Q i j c c2 d:Nat} (h:Q+c*BB^(i+j)=P+V%BB^i*BB^j) (hd:lim Q (i+j)+lim V i+c=d+c2*BB) :
  upd Q (i+j) d+c2*BB^(i+1+j)=P+V%BB^(i+1)*BB^j:=by
 have u:=qfN Q (i+j) d
 have e1:V%BB^(i+1)*BB^j=V%BB^i*BB^j+lim V i*BB^(i+j):=by
  rw [qaR V,Nat.add_mul,Nat.pow_add,Nat.mul_assoc]
 have e2:c2*BB^(i+1+j)=c2*BB*BB^(i+j):=by rw [show i+1+j=(i+j)+1 by omega,qcK,Nat.mul_assoc]
 rw [e1,e2]
 have f1:=congrArg (·*BB^(i+j)) hd
 simp only [Nat.add_mul] at f1 h ⊢
 omega
theorem qyB {X V P g n j c b b2 w q:Nat} (h:P+g*(V%BB^n)*BB^j=X+(c+b)*BB^(n+j)) (hV:V<BB^n) (hw:w+c+b=lim P (n+j)+b2*BB) (hX:X<V*BB^(j+1)) (hV0:0<V)
  (hq:q=X / (V*BB^j)) (hg1:q≤g) (hg2:g≤q+1) (hP:upd P (n+j) w<BB^(n+j+1)) :
  (b2=0→g=q∧upd P (n+j) w=X%(V*BB^j))∧(b2≠0→g=q+1∧upd P (n+j) w+V*BB^j=X%(V*BB^j)+BB^(n+j+1)):=by
 have u:=qfN P (n+j) w
 rw [Nat.mod_eq_of_lt hV] at h
 have f2:=congrArg (·*BB^(n+j)) hw
 have e2:b2*BB*BB^(n+j)=b2*BB^(n+j+1):=by rw [qcK,Nat.mul_assoc]
 simp only [Nat.add_mul,e2] at f2 h
 have key:upd P (n+j) w+g*V*BB^j=X+b2*BB^(n+j+1):=by omega
 have hVp:0<V*BB^j:=Nat.mul_pos hV0 (BP j)
 have h6:=Nat.div_add_mod X (V*BB^j)
 rw [←hq] at h6
 have h7:=Nat.mod_lt X hVp
 have hVB:V*BB^j<BB^(n+j):=by rw [Nat.pow_add];exact Nat.mul_lt_mul_of_pos_right hV (BP j)
 have hBB:BB^(n+j)≤BB^(n+j+1):=Nat.pow_le_pow_right qaN (by omega)
 have hb1:b2≤1:=by
  rcases Nat.lt_or_ge 1 b2 with hc|hc
  ·exfalso
   have:2*BB^(n+j+1)≤b2*BB^(n+j+1):=Nat.mul_le_mul_right _ hc
   have hgV:g*V*BB^j≤X+V*BB^j:=by
    have:g*V*BB^j≤(q+1)*V*BB^j:=Nat.mul_le_mul_right _ (Nat.mul_le_mul_right _ hg2)
    have e:(q+1)*V*BB^j=V*BB^j*q+V*BB^j:=by rw [Nat.mul_assoc,Nat.add_mul,Nat.one_mul,Nat.mul_comm q]
    omega
   omega
  ·exact hc
 rcases Nat.lt_or_ge q g with hlt|hge
 ·have hgq:g=q+1:=by omega
  have e:g*V*BB^j=V*BB^j*q+V*BB^j:=by rw [hgq,Nat.mul_assoc,Nat.add_mul,Nat.one_mul,Nat.mul_comm q]
  have hb0:b2=1:=by
   rcases Nat.eq_zero_or_pos b2 with h0|h0
   ·rw [h0] at key;omega
   ·omega
  exact ⟨fun h0=>by omega,fun _=>⟨hgq,by rw [hb0] at key;omega⟩⟩
 ·have hgq:g=q:=by omega
  have e:g*V*BB^j=V*BB^j*q:=by rw [hgq,Nat.mul_assoc,Nat.mul_comm q]
  have hb0:b2=0:=by
   rcases Nat.eq_zero_or_pos b2 with h0|h0
   ·exact h0
   ·have:b2=1:=by omega
    rw [this] at key;omega
  exact ⟨fun _=>⟨hgq,by rw [hb0] at key;omega⟩,fun h0=>absurd hb0 h0⟩
theorem qwZ {P V Q n j c d o T:Nat} (h:Q+c*BB^(n+j)=P+V%BB^n*BB^j) (hV:V<BB^n) (hd:lim Q (n+j)+c=d+o*BB) (hP:P+V*BB^j=T+BB^(n+j+1)) (hT:T<BB^(n+j+1)) (hR:upd Q (n+j) d<BB^(n+j+1)):upd Q (n+j) d=T:=by
 have u:=qfN Q (n+j) d
 rw [Nat.mod_eq_of_lt hV] at h
 have f:=congrArg (·*BB^(n+j)) hd
 have e2:o*BB*BB^(n+j)=o*BB^(n+j+1):=by rw [qcK,Nat.mul_assoc]
 simp only [Nat.add_mul,e2] at f
 have key:upd Q (n+j) d+o*BB^(n+j+1)=T+BB^(n+j+1):=by omega
 rcases Nat.lt_trichotomy o 1 with ho|ho|ho
 ·have:o=0:=by omega
  rw [this] at key;omega
 ·rw [ho] at key;omega
 ·have:2*BB^(n+j+1)≤o*BB^(n+j+1):=Nat.mul_le_mul_right _ ho
  omega
theorem qpA {A Q X V j q:Nat} (h:Q*V+X=A) (hq:q=X / (V*BB^j)) (hQ:lim Q j=0):upd Q j q*V+X%(V*BB^j)=A:=by
 have u:=qfN Q j q
 rw [hQ,Nat.zero_mul,Nat.add_zero] at u
 rw [u,Nat.add_mul]
 have h6:=Nat.div_add_mod X (V*BB^j)
 rw [←hq] at h6
 have e:q*BB^j*V=V*BB^j*q:=by rw [Nat.mul_comm (q*BB^j),Nat.mul_comm q,←Nat.mul_assoc]
 omega
theorem qwG {A Q X V:Nat} (h:Q*V+X=A) (hX:X<V):Q=A / V∧X=A%V:=by
 have hV:0<V:=by omega
 constructor
 ·rw [←h,Nat.mul_comm,Nat.mul_add_div hV,Nat.div_eq_of_lt hX,Nat.add_zero]
 ·rw [←h,Nat.mul_comm,Nat.mul_add_mod,Nat.mod_eq_of_lt hX]
end Big
end Go.Proofs.YtooeabibhjbkoaaGreat
