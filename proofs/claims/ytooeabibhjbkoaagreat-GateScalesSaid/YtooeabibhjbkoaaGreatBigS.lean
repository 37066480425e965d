import Derived.Test.YtooeabibhjbkoaaGreatBigQ
set_option linter.unusedVariables false
set_option linter.unusedSimpArgs false
namespace Go.Proofs.YtooeabibhjbkoaaGreat
namespace Big
theorem qcF:BB=2^32:=by unfold BB;decide
theorem qfC (k:Nat):BB^k=2^(32*k):=by rw [qcF,←Nat.pow_mul]
theorem tp (k:Nat):0<2^k:=Nat.pow_pos (by omega)
def IsBits (v n:Nat):Prop:=v<2^n∧(0<n→2^(n - 1)≤v)
theorem IsBits.unique {v n m:Nat} (hn:IsBits v n) (hm:IsBits v m):n=m:=by
 rcases Nat.lt_trichotomy n m with h|h|h
 ·have h1:=hm.2 (by omega)
  have h2:=Nat.pow_le_pow_right (show 0<2 by omega) (show n≤m - 1 by omega)
  have h3:=hn.1
  omega
 ·exact h
 ·have h1:=hn.2 (by omega)
  have h2:=Nat.pow_le_pow_right (show 0<2 by omega) (show m≤n - 1 by omega)
  have h3:=hm.1
  omega
theorem IsBits.half {v n:Nat} (h:IsBits v n) (hv:0<v):0<n∧IsBits (v / 2) (n - 1):=by
 have hn:0<n:=by
  rcases Nat.eq_zero_or_pos n with h0|h0
  ·subst h0;have:=h.1;simp at this;omega
  ·exact h0
 obtain ⟨m,rfl⟩:∃ m,n=m+1:=⟨n - 1,by omega⟩
 have h1:=h.1
 have h2:=h.2 hn
 simp only [Nat.add_sub_cancel] at h2 ⊢
 refine ⟨hn,by rw [Nat.pow_succ] at h1;omega,fun hm=>?_⟩
 obtain ⟨j,rfl⟩:∃ j,m=j+1:=⟨m - 1,by omega⟩
 simp only [Nat.add_sub_cancel]
 rw [Nat.pow_succ] at h2
 omega
theorem qaE (v:Nat):∃ n,IsBits v n:=by
 by_cases h:v=0
 ·exact ⟨0,by subst h;simp,fun h=>by omega⟩
 ·refine ⟨Nat.log2 v+1,Nat.lt_log2_self,fun _=>?_⟩
  exact Nat.log2_self_le h
theorem IsBits.zero {n:Nat} (h:IsBits 0 n):n=0:=by
 rcases Nat.eq_zero_or_pos n with h0|h0
 ·exact h0
 ·have:=h.2 h0;have:=tp (n - 1);omega
theorem qmR {v n m:Nat} (h:v<BB^(n+1)) (hz:lim v n≠0) (hm:IsBits (lim v n) m):IsBits v (32*n+m):=by
 have h1:v / BB^n=lim v n:=by
  unfold lim
  rw [Nat.mod_eq_of_lt]
  rw [Nat.div_lt_iff_lt_mul (BP n),←qcK];exact h
 have hm0:0<m:=by
  rcases Nat.eq_zero_or_pos m with h0|h0
  ·subst h0;have:=hm.1;simp at this;omega
  ·exact h0
 refine ⟨?_,fun _=>?_⟩
 ·rw [Nat.pow_add,←qfC,Nat.mul_comm,←Nat.div_lt_iff_lt_mul (BP n),h1];exact hm.1
 ·rw [show 32*n+m - 1=32*n+(m - 1) by omega,Nat.pow_add,←qfC,Nat.mul_comm,←Nat.le_div_iff_mul_le (BP n),h1]
  exact hm.2 hm0
theorem qhA {a b i:Nat} (h:b<2^i) (ha:a%2^i=0):a ||| b=a+b:=by
 have e:a=2^i*(a / 2^i):=by have:=Nat.mod_add_div a (2^i);omega
 rw [e,←Nat.two_pow_add_eq_or_of_lt h]
theorem qfQ (m k s i:Nat) (hs:s<32):lim (m / 2^(32*k+s)) i=lim m (i+k) / 2^s+lim m (i+k+1)%2^s*2^(32 - s):=by
 have e1:m / 2^(32*k+s) / BB^i=m / BB^(i+k) / 2^s:=by
  rw [qfC,qfC,Nat.div_div_eq_div_mul,Nat.div_div_eq_div_mul,←Nat.pow_add,←Nat.pow_add]
  congr 2;omega
 have e2:m / BB^(i+k)=lim m (i+k)+m / BB^(i+k+1)*BB:=qbN m (i+k)
 have e3:BB=2^s*2^(32 - s):=by rw [qcF,←Nat.pow_add];congr 1;omega
 unfold lim at *
 rw [e1,e2]
 obtain ⟨x,hx⟩:∃ x,x=m / BB^(i+k)%BB:=⟨_,rfl⟩
 obtain ⟨y,hy⟩:∃ y,y=m / BB^(i+k+1):=⟨_,rfl⟩
 have hxl:x<BB:=by rw [hx];exact Nat.mod_lt _ qaN
 rw [←hx,←hy]
 obtain ⟨S,hS⟩:∃ S,S=2^s:=⟨_,rfl⟩
 obtain ⟨T,hT⟩:∃ T,T=2^(32 - s):=⟨_,rfl⟩
 have hS0:0<S:=by rw [hS];exact tp s
 have hT0:0<T:=by rw [hT];exact tp _
 rw [←hS,←hT] at e3 ⊢
 rw [e3] at hxl ⊢
 have d1:(x+y*(S*T)) / S=x / S+y*T:=by
  rw [show y*(S*T)=S*(y*T) by simp only [Nat.mul_left_comm,Nat.mul_comm],Nat.add_mul_div_left _ _ hS0]
 have d2:y%(S*T)%S=y%S:=Nat.mod_mul_right_mod _ _ _
 have d3:y*T%(S*T)=y%S*T:=Nat.mul_mod_mul_right _ _ _
 have hxs:x / S<T:=by rw [Nat.div_lt_iff_lt_mul hS0,Nat.mul_comm];exact hxl
 rw [d1,d2,Nat.add_mod,d3,Nat.mod_eq_of_lt (show x / S<S*T from Nat.lt_of_lt_of_le hxs (Nat.le_mul_of_pos_left _ hS0))]
 have h1:y%S<S:=Nat.mod_lt _ hS0
 have h2:y%S*T+T≤S*T:=by rw [←Nat.succ_mul];exact Nat.mul_le_mul_right _ h1
 have h3:x / S+y%S*T<S*T:=Nat.lt_of_lt_of_le (Nat.add_lt_add_right hxs _) (by rw [Nat.add_comm];exact h2)
 rw [Nat.mod_eq_of_lt h3,Nat.add_mul_mod_self_right,Nat.mod_eq_of_lt hxl]
theorem jaB (a i:Nat):lim a (i / 32) / 2^(i%32)%2=a / 2^i%2:=by
 have h:=qfQ a (i / 32) (i%32) 0 (by omega)
 have h2:lim (a / 2^(32*(i / 32)+i%32)) 0%2=a / 2^i%2:=by
  unfold lim
  rw [show 32*(i / 32)+i%32=i by omega,Nat.pow_zero,Nat.div_one,Nat.mod_mod_of_dvd]
  unfold BB;omega
 rw [←h2,h,Nat.zero_add,Nat.add_mod]
 have h3:lim a (i / 32+1)%2^(i%32)*2^(32 - i%32)%2=0:=by
  rw [show 32 - i%32=(31 - i%32)+1 by omega,Nat.pow_succ,←Nat.mul_assoc]
  exact Nat.mul_mod_left _ _
 rw [h3];omega
theorem qwF {a b q r i:Nat} (h:a / 2^(i+1)=q*b+r) (hr:r<b) :
  (b≤2*r+a / 2^i%2→a / 2^i=(2*q+1)*b+(2*r+a / 2^i%2 - b)∧2*r+a / 2^i%2 - b<b) ∧
  (2*r+a / 2^i%2<b→a / 2^i=2*q*b+(2*r+a / 2^i%2)):=by
 have h1:a / 2^i=2*(a / 2^(i+1))+a / 2^i%2:=by
  rw [Nat.pow_succ,←Nat.div_div_eq_div_mul];omega
 have hb:a / 2^i%2<2:=Nat.mod_lt _ (by omega)
 obtain ⟨c,hc⟩:∃ c,c=a / 2^i%2:=⟨_,rfl⟩
 rw [←hc] at h1 hb ⊢
 rw [h] at h1
 have h2:2*(q*b+r)=2*q*b+2*r:=by rw [Nat.mul_add,Nat.mul_assoc]
 have h3:(2*q+1)*b=2*q*b+b:=by rw [Nat.add_mul,Nat.one_mul]
 refine ⟨fun hle=>⟨?_,by omega⟩,fun hlt=>?_⟩
 ·rw [h1,h2,h3];omega
 ·rw [h1,h2];omega
end Big
end Go.Proofs.YtooeabibhjbkoaaGreat
