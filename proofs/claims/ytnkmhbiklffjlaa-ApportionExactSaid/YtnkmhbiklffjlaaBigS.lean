import Derived.WalkKit
set_option linter.unusedVariables false
set_option linter.unusedSimpArgs false
namespace Go.Proofs.Ytnkmhbiklffjlaa
namespace Big
def BB:Nat:=4294967296
theorem BB_pos:0<BB:=by unfold BB;omega
theorem BP (k:Nat):0<BB^k:=Nat.pow_pos BB_pos
def lim (v k:Nat):Nat:=v / BB^k%BB
theorem lim_lt (v k:Nat):lim v k<BB:=Nat.mod_lt _ BB_pos
def dg (n v:Nat):List Nat:=(List.range n).map (lim v)
theorem dg_len (n v:Nat):(dg n v).length=n:=by simp [dg]
theorem dg_get {n k:Nat} (v:Nat) (h:k<n):(dg n v)[k]?=some (lim v k):=by simp [dg,h]
theorem dg_getD {n k:Nat} (v:Nat) (h:k<n):(dg n v).getD k 0=lim v k:=by simp [List.getD,dg_get v h]
theorem lim_zero (k:Nat):lim 0 k=0:=by simp [lim]
theorem mod_succ (v k:Nat):v%BB^(k+1)=v%BB^k+lim v k*BB^k:=by
 rw [Nat.mod_pow_succ,lim,Nat.mul_comm]
theorem lim_lo {p x i k:Nat} (h:k<i):lim (p+x*BB^i) k=lim p k:=by
 have e:x*BB^i=BB^k*(BB*(x*BB^(i - k - 1))):=by
  have:BB^i=BB^k*(BB*BB^(i - k - 1)):=by
   rw [←Nat.pow_succ',←Nat.pow_add];congr 1;omega
  rw [this]
  simp only [Nat.mul_left_comm,Nat.mul_comm]
 rw [lim,e,Nat.add_mul_div_left _ _ (BP k),Nat.add_mul_mod_self_left];rfl
theorem lim_hi {p x i k:Nat} (hp:p<BB^i) (h:i≤k):lim (p+x*BB^i) k=lim x (k - i):=by
 have e:BB^k=BB^i*BB^(k - i):=by rw [←Nat.pow_add];congr 1;omega
 rw [lim,e,←Nat.div_div_eq_div_mul,Nat.add_mul_div_right _ _ (BP i),Nat.div_eq_of_lt hp,Nat.zero_add];rfl
theorem lim_small {x k:Nat} (hx:x<BB):lim x k=if k=0 then x else 0:=by
 unfold lim
 split
 ·rename_i h;subst h;simp [Nat.mod_eq_of_lt hx]
 ·rename_i h
  have:x<BB^k:=Nat.lt_of_lt_of_le hx (by
   have:=Nat.pow_le_pow_right BB_pos (show 1≤k by omega)
   simpa using this)
  rw [Nat.div_eq_of_lt this];simp
theorem lim_big {v i k:Nat} (hv:v<BB^i) (h:i≤k):lim v k=0:=by
 have:=lim_hi (x:=0) hv h
 simpa [lim_zero] using this
theorem eq_mod_of_lim {v w n:Nat} (h:∀ k,k<n→lim v k=lim w k):v%BB^n=w%BB^n:=by
 induction n with
 | zero=>simp [Nat.mod_one]
 | succ n ih=>rw [mod_succ,mod_succ,ih (fun k hk=>h k (by omega)),h n (by omega)]
theorem eq_of_lim {v w n:Nat} (hv:v<BB^n) (hw:w<BB^n) (h:∀ k,k<n→lim v k=lim w k):v=w:=by
 have:=eq_mod_of_lim h
 rwa [Nat.mod_eq_of_lt hv,Nat.mod_eq_of_lt hw] at this
def upd (v i x:Nat):Nat:=v%BB^i+x*BB^i+v / BB^(i+1)*BB^(i+1)
theorem upd_lim {v i x k:Nat} (hx:x<BB):lim (upd v i x) k=if k=i then x else lim v k:=by
 have h0:v%BB^i<BB^i:=Nat.mod_lt _ (BP i)
 have h1:v%BB^i+x*BB^i<BB^(i+1):=by
  have:x*BB^i+BB^i≤BB*BB^i:=by rw [←Nat.succ_mul];exact Nat.mul_le_mul_right _ hx
  rw [Nat.pow_succ'];omega
 unfold upd
 rcases Nat.lt_trichotomy k i with h|h|h
 ·rw [if_neg (by omega),lim_lo (by omega),lim_lo h]
  unfold lim
  have e:BB^i=BB^k*BB^(i - k):=by rw [←Nat.pow_add];congr 1;omega
  have hm:v%BB^i / BB^k=v / BB^k%BB^(i - k):=by rw [e,Nat.mod_mul_right_div_self]
  rw [hm]
  have e2:BB^(i - k)=BB*BB^(i - k - 1):=by rw [←Nat.pow_succ'];congr 1;omega
  rw [e2,Nat.mod_mul_right_mod]
 ·subst h
  rw [if_pos rfl,lim_lo (by omega),lim_hi h0 (Nat.le_refl _),Nat.sub_self,lim_small hx,if_pos rfl]
 ·rw [if_neg (by omega),lim_hi h1 (by omega)]
  unfold lim
  rw [Nat.div_div_eq_div_mul,←Nat.pow_add]
  congr 3;omega
theorem upd_eq (v i x:Nat):upd v i x+lim v i*BB^i=v+x*BB^i:=by
 have h1:=mod_succ v i
 have h2:=Nat.mod_add_div v (BB^(i+1))
 unfold upd
 rw [Nat.mul_comm] at h2
 omega
theorem upd_lt {v i x n:Nat} (hv:v<BB^n) (hi:i<n) (hx:x<BB):upd v i x<BB^n:=by
 have h0:v%BB^i<BB^i:=Nat.mod_lt _ (BP i)
 have h1:v%BB^i+x*BB^i<BB^(i+1):=by
  have:x*BB^i+BB^i≤BB*BB^i:=by rw [←Nat.succ_mul];exact Nat.mul_le_mul_right _ hx
  rw [Nat.pow_succ'];omega
 have e:BB^n=BB^(n - (i+1))*BB^(i+1):=by rw [←Nat.pow_add];congr 1;omega
 have h2:v / BB^(i+1)<BB^(n - (i+1)):=by
  rw [Nat.div_lt_iff_lt_mul (BP _),←e];exact hv
 have h3:v / BB^(i+1)*BB^(i+1)+BB^(i+1)≤BB^n:=by
  rw [←Nat.succ_mul,e];exact Nat.mul_le_mul_right _ h2
 unfold upd;omega
theorem dg_upd {v i x n:Nat} (hi:i<n) (hx:x<BB):(dg n v).set i x=dg n (upd v i x):=by
 apply List.ext_getElem?
 intro k
 rw [List.getElem?_set]
 by_cases hk:k<n
 ·rw [dg_get _ hk,dg_get _ hk,upd_lim hx]
  by_cases e:i=k
  ·subst e;simp [dg_len,hk]
  ·rw [if_neg e,if_neg (Ne.symm e)]
 ·rw [if_neg (by omega),List.getElem?_eq_none (by rw [dg_len];omega),List.getElem?_eq_none (by rw [dg_len];omega)]
theorem div_succ (v k:Nat):v / BB^k=lim v k+v / BB^(k+1)*BB:=by
 rw [Nat.pow_succ,←Nat.div_div_eq_div_mul]
 have:=Nat.mod_add_div (v / BB^k) BB
 unfold lim
 rw [Nat.mul_comm] at this;omega
theorem lt_of_lim {a b k:Nat} (h:a / BB^(k+1)=b / BB^(k+1)) (hl:lim a k<lim b k):a<b:=by
 have h1:=div_succ a k
 have h2:=div_succ b k
 have h3:a / BB^k<b / BB^k:=by rw [h1,h2,h];omega
 exact Nat.lt_of_not_le (fun hle=>absurd (Nat.div_le_div_right hle) (Nat.not_le.2 h3))
theorem div_eq_down {a b k:Nat} (h:a / BB^(k+1)=b / BB^(k+1)) (hl:lim a k=lim b k):a / BB^k=b / BB^k:=by rw [div_succ a k,div_succ b k,h,hl]
end Big
end Go.Proofs.Ytnkmhbiklffjlaa
namespace Go.Proofs.Ytnkmhbiklffjlaa
namespace Big
theorem pow_s (i:Nat):BB^(i+1)=BB*BB^i:=Nat.pow_succ'
theorem lt_succ {P d i:Nat} (hP:P<BB^i) (hd:d<BB):P+d*BB^i<BB^(i+1):=by
 have:d*BB^i+BB^i≤BB*BB^i:=by rw [←Nat.succ_mul];exact Nat.mul_le_mul_right _ hd
 rw [pow_s];omega
theorem sum_step {a b P c d c' i:Nat} (h:P+c*BB^i=a%BB^i+b%BB^i) (hv:lim a i+lim b i+c=d+c'*BB) :
  P+d*BB^i+c'*BB^(i+1)=a%BB^(i+1)+b%BB^(i+1):=by
 rw [mod_succ a,mod_succ b,pow_s]
 have e:=congrArg (·*BB^i) hv
 simp only [Nat.add_mul,Nat.mul_assoc] at e
 omega
theorem diff_step {a b P c d c' i:Nat} (h:P+b%BB^i=a%BB^i+c*BB^i) (hv:d+lim b i+c=lim a i+c'*BB) :
  P+d*BB^i+b%BB^(i+1)=a%BB^(i+1)+c'*BB^(i+1):=by
 rw [mod_succ a,mod_succ b,pow_s]
 have e:=congrArg (·*BB^i) hv
 simp only [Nat.add_mul,Nat.mul_assoc] at e
 omega
theorem dbl_step {m P bit c d c' i:Nat} (h:P+c*BB^i=2*(m%BB^i)+bit) (hv:d+c'*BB=2*lim m i+c) :
  P+d*BB^i+c'*BB^(i+1)=2*(m%BB^(i+1))+bit:=by
 rw [mod_succ m,pow_s]
 have e:=congrArg (·*BB^i) hv
 simp only [Nat.add_mul,Nat.mul_assoc] at e
 omega
theorem mul_step {a b P x y c d c' i j:Nat} (h:P+c*BB^(i+j)=(a%BB^i)*b+x*(b%BB^j)*BB^i) (hx:x=lim a i) (hy:y=lim b j)
  (hv:x*y+lim P (i+j)+c=d+c'*BB):upd P (i+j) d+c'*BB^(i+(j+1))=(a%BB^i)*b+x*(b%BB^(j+1))*BB^i:=by
 have e:=congrArg (·*BB^(i+j)) hv
 have u:=upd_eq P (i+j) d
 have e2:x*(b%BB^(j+1))*BB^i=x*(b%BB^j)*BB^i+x*y*BB^(i+j):=by
  rw [mod_succ b,Nat.mul_add,Nat.add_mul,hy,Nat.pow_add]
  congr 1
  simp only [Nat.mul_assoc,Nat.mul_left_comm,Nat.mul_comm]
 have e3:c'*BB^(i+(j+1))=c'*BB*BB^(i+j):=by rw [←Nat.add_assoc,pow_s,Nat.mul_assoc]
 rw [e2,e3]
 simp only [Nat.add_mul] at e
 omega
theorem mul_row {a b P x i:Nat} (h:P=(a%BB^i)*b+x*b*BB^i) (hx:x=lim a i):P=(a%BB^(i+1))*b:=by
 rw [mod_succ a,Nat.add_mul,h,hx]
 congr 1
 simp only [Nat.mul_assoc,Nat.mul_left_comm,Nat.mul_comm]
def IsLimbs (v n:Nat):Prop:=v<BB^n∧(0<n→BB^(n - 1)≤v)
theorem limbs_down {v k:Nat} (h:v<BB^(k+1)) (hz:lim v k=0):v<BB^k:=by
 have:=mod_succ v k
 rw [Nat.mod_eq_of_lt h,hz] at this
 have h2:=Nat.mod_lt v (BP k)
 omega
theorem limbs_stop {v k:Nat} (hz:lim v k≠0):BB^k≤v:=by
 refine Nat.le_of_not_lt (fun h=>hz ?_)
 exact lim_big h (Nat.le_refl _)
theorem IsLimbs.unique {v n m:Nat} (hn:IsLimbs v n) (hm:IsLimbs v m):n=m:=by
 rcases Nat.lt_trichotomy n m with h|h|h
 ·have h1:=hm.2 (by omega)
  have h2:=Nat.pow_le_pow_right BB_pos (show n≤m - 1 by omega)
  have h3:=hn.1
  omega
 ·exact h
 ·have h1:=hn.2 (by omega)
  have h2:=Nat.pow_le_pow_right BB_pos (show m≤n - 1 by omega)
  have h3:=hm.1
  omega
theorem IsLimbs.zero {n:Nat} (h:IsLimbs 0 n):n=0:=by
 rcases Nat.eq_zero_or_pos n with h0|h0
 ·exact h0
 ·have:=h.2 h0;have:=BP (n - 1);omega
theorem IsLimbs.pos {v n:Nat} (h:IsLimbs v n) (hn:0<n):0<v:=by have:=h.2 hn;have:=BP (n - 1);omega
theorem IsLimbs.eq_zero {v:Nat} (h:IsLimbs v 0):v=0:=by have:=h.1;simp at this;exact this
end Big
end Go.Proofs.Ytnkmhbiklffjlaa
namespace Go.Proofs.Ytnkmhbiklffjlaa
namespace Big
theorem BB_two:BB=2^32:=by unfold BB;decide
theorem BP_two (k:Nat):BB^k=2^(32*k):=by rw [BB_two,←Nat.pow_mul]
theorem tp (k:Nat):0<2^k:=Nat.pow_pos (by omega)
def IsBits (v n:Nat):Prop:=v<2^n∧(0<n→2^(n - 1)≤v)
theorem IsBits.unique {v n m:Nat} (hn:IsBits v n) (hm:IsBits v m):n=m:=by
 rcases Nat.lt_trichotomy n m with h|h|h
 ·have h1:=hm.2 (by omega)
  have h2:=Nat.pow_le_pow_right (show 0<2 by omega) (show n≤m - 1 by omega)
  have h3:=hn.1
  omega
 ·exact h
 ·have h1:=hn.2 (by omega)
  have h2:=Nat.pow_le_pow_right (show 0<2 by omega) (show m≤n - 1 by omega)
  have h3:=hm.1
  omega
theorem IsBits.half {v n:Nat} (h:IsBits v n) (hv:0<v):0<n∧IsBits (v / 2) (n - 1):=by
 have hn:0<n:=by
  rcases Nat.eq_zero_or_pos n with h0|h0
  ·subst h0;have:=h.1;simp at this;omega
  ·exact h0
 obtain ⟨m,rfl⟩:∃ m,n=m+1:=⟨n - 1,by omega⟩
 have h1:=h.1
 have h2:=h.2 hn
 simp only [Nat.add_sub_cancel] at h2 ⊢
 refine ⟨hn,by rw [Nat.pow_succ] at h1;omega,fun hm=>?_⟩
 obtain ⟨j,rfl⟩:∃ j,m=j+1:=⟨m - 1,by omega⟩
 simp only [Nat.add_sub_cancel]
 rw [Nat.pow_succ] at h2
 omega
theorem is_bits_exists (v:Nat):∃ n,IsBits v n:=by
 by_cases h:v=0
 ·exact ⟨0,by subst h;simp,fun h=>by omega⟩
 ·refine ⟨Nat.log2 v+1,Nat.lt_log2_self,fun _=>?_⟩
  exact Nat.log2_self_le h
theorem IsBits.zero {n:Nat} (h:IsBits 0 n):n=0:=by
 rcases Nat.eq_zero_or_pos n with h0|h0
 ·exact h0
 ·have:=h.2 h0;have:=tp (n - 1);omega
theorem bits_limb {v n m:Nat} (h:v<BB^(n+1)) (hz:lim v n≠0) (hm:IsBits (lim v n) m):IsBits v (32*n+m):=by
 have h1:v / BB^n=lim v n:=by
  unfold lim
  rw [Nat.mod_eq_of_lt]
  rw [Nat.div_lt_iff_lt_mul (BP n),←pow_s];exact h
 have hm0:0<m:=by
  rcases Nat.eq_zero_or_pos m with h0|h0
  ·subst h0;have:=hm.1;simp at this;omega
  ·exact h0
 refine ⟨?_,fun _=>?_⟩
 ·rw [Nat.pow_add,←BP_two,Nat.mul_comm,←Nat.div_lt_iff_lt_mul (BP n),h1];exact hm.1
 ·rw [show 32*n+m - 1=32*n+(m - 1) by omega,Nat.pow_add,←BP_two,Nat.mul_comm,←Nat.le_div_iff_mul_le (BP n),h1]
  exact hm.2 hm0
theorem or_low {a b i:Nat} (h:b<2^i) (ha:a%2^i=0):a ||| b=a+b:=by
 have e:a=2^i*(a / 2^i):=by have:=Nat.mod_add_div a (2^i);omega
 rw [e,←Nat.two_pow_add_eq_or_of_lt h]
theorem shift_lim (m k s i:Nat) (hs:s<32):lim (m / 2^(32*k+s)) i=lim m (i+k) / 2^s+lim m (i+k+1)%2^s*2^(32 - s):=by
 have e1:m / 2^(32*k+s) / BB^i=m / BB^(i+k) / 2^s:=by
  rw [BP_two,BP_two,Nat.div_div_eq_div_mul,Nat.div_div_eq_div_mul,←Nat.pow_add,←Nat.pow_add]
  congr 2;omega
 have e2:m / BB^(i+k)=lim m (i+k)+m / BB^(i+k+1)*BB:=div_succ m (i+k)
 have e3:BB=2^s*2^(32 - s):=by rw [BB_two,←Nat.pow_add];congr 1;omega
 unfold lim at *
 rw [e1,e2]
 obtain ⟨x,hx⟩:∃ x,x=m / BB^(i+k)%BB:=⟨_,rfl⟩
 obtain ⟨y,hy⟩:∃ y,y=m / BB^(i+k+1):=⟨_,rfl⟩
 have hxl:x<BB:=by rw [hx];exact Nat.mod_lt _ BB_pos
 rw [←hx,←hy]
 obtain ⟨S,hS⟩:∃ S,S=2^s:=⟨_,rfl⟩
 obtain ⟨T,hT⟩:∃ T,T=2^(32 - s):=⟨_,rfl⟩
 have hS0:0<S:=by rw [hS];exact tp s
 have hT0:0<T:=by rw [hT];exact tp _
 rw [←hS,←hT] at e3 ⊢
 rw [e3] at hxl ⊢
 have d1:(x+y*(S*T)) / S=x / S+y*T:=by
  rw [show y*(S*T)=S*(y*T) by simp only [Nat.mul_left_comm,Nat.mul_comm],Nat.add_mul_div_left _ _ hS0]
 have d2:y%(S*T)%S=y%S:=Nat.mod_mul_right_mod _ _ _
 have d3:y*T%(S*T)=y%S*T:=Nat.mul_mod_mul_right _ _ _
 have hxs:x / S<T:=by rw [Nat.div_lt_iff_lt_mul hS0,Nat.mul_comm];exact hxl
 rw [d1,d2,Nat.add_mod,d3,Nat.mod_eq_of_lt (show x / S<S*T from Nat.lt_of_lt_of_le hxs (Nat.le_mul_of_pos_left _ hS0))]
 have h1:y%S<S:=Nat.mod_lt _ hS0
 have h2:y%S*T+T≤S*T:=by rw [←Nat.succ_mul];exact Nat.mul_le_mul_right _ h1
 have h3:x / S+y%S*T<S*T:=Nat.lt_of_lt_of_le (Nat.add_lt_add_right hxs _) (by rw [Nat.add_comm];exact h2)
 rw [Nat.mod_eq_of_lt h3,Nat.add_mul_mod_self_right,Nat.mod_eq_of_lt hxl]
theorem bit_lim (a i:Nat):lim a (i / 32) / 2^(i%32)%2=a / 2^i%2:=by
 have h:=shift_lim a (i / 32) (i%32) 0 (by omega)
 have h2:lim (a / 2^(32*(i / 32)+i%32)) 0%2=a / 2^i%2:=by
  unfold lim
  rw [show 32*(i / 32)+i%32=i by omega,Nat.pow_zero,Nat.div_one,Nat.mod_mod_of_dvd]
  unfold BB;omega
 rw [←h2,h,Nat.zero_add,Nat.add_mod]
 have h3:lim a (i / 32+1)%2^(i%32)*2^(32 - i%32)%2=0:=by
  rw [show 32 - i%32=(31 - i%32)+1 by omega,Nat.pow_succ,←Nat.mul_assoc]
  exact Nat.mul_mod_left _ _
 rw [h3];omega
theorem div_step {a b q r i:Nat} (h:a / 2^(i+1)=q*b+r) (hr:r<b) :
  (b≤2*r+a / 2^i%2→a / 2^i=(2*q+1)*b+(2*r+a / 2^i%2 - b)∧2*r+a / 2^i%2 - b<b) ∧
  (2*r+a / 2^i%2<b→a / 2^i=2*q*b+(2*r+a / 2^i%2)):=by
 have h1:a / 2^i=2*(a / 2^(i+1))+a / 2^i%2:=by
  rw [Nat.pow_succ,←Nat.div_div_eq_div_mul];omega
 have hb:a / 2^i%2<2:=Nat.mod_lt _ (by omega)
 obtain ⟨c,hc⟩:∃ c,c=a / 2^i%2:=⟨_,rfl⟩
 rw [←hc] at h1 hb ⊢
 rw [h] at h1
 have h2:2*(q*b+r)=2*q*b+2*r:=by rw [Nat.mul_add,Nat.mul_assoc]
 have h3:(2*q+1)*b=2*q*b+b:=by rw [Nat.add_mul,Nat.one_mul]
 refine ⟨fun hle=>⟨?_,by omega⟩,fun hlt=>?_⟩
 ·rw [h1,h2,h3];omega
 ·rw [h1,h2];omega
end Big
end Go.Proofs.Ytnkmhbiklffjlaa
