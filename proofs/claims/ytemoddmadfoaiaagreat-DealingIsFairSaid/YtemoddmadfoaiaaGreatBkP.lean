import Derived.WalkKit
set_option linter.unusedVariables false
set_option linter.unusedSimpArgs false
namespace Go.Proofs.YtemoddmadfoaiaaGreat
namespace Big
def BB:Nat:=4294967296
theorem qbH:0<BB:=by unfold BB;omega
theorem BP (k:Nat):0<BB^k:=Nat.pow_pos qbH
def lim (v k:Nat):Nat:=v / BB^k%BB
theorem qaG (v k:Nat):lim v k<BB:=Nat.mod_lt _ qbH
def dg (n v:Nat):List Nat:=(List.range n).map (lim v)
theorem qhF (n v:Nat):(dg n v).length=n:=by simp [dg]
theorem qiC {n k:Nat} (v:Nat) (h:k<n):(dg n v)[k]?=some (lim v k):=by simp [dg,h]
theorem jfV {n k:Nat} (v:Nat) (h:k<n):(dg n v).getD k 0=lim v k:=by simp [List.getD,qiC v h]
theorem qfN (k:Nat):lim 0 k=0:=by simp [lim]
theorem qbF (v k:Nat):v%BB^(k+1)=v%BB^k+lim v k*BB^k:=by
 rw [Nat.mod_pow_succ,lim,Nat.mul_comm]
theorem qrU {p x i k:Nat} (h:k<i):lim (p+x*BB^i) k=lim p k:=by
 have e:x*BB^i=BB^k*(BB*(x*BB^(i - k - 1))):=by
  have:BB^i=BB^k*(BB*BB^(i - k - 1)):=by
   rw [←Nat.pow_succ',←Nat.pow_add];congr 1;omega
  rw [this];simp only [Nat.mul_left_comm,Nat.mul_comm]
 rw [lim,e,Nat.add_mul_div_left _ _ (BP k),Nat.add_mul_mod_self_left];rfl
theorem qrV {p x i k:Nat} (hp:p<BB^i) (h:i≤k):lim (p+x*BB^i) k=lim x (k - i):=by
 have e:BB^k=BB^i*BB^(k - i):=by rw [←Nat.pow_add];congr 1;omega
 rw [lim,e,←Nat.div_div_eq_div_mul,Nat.add_mul_div_right _ _ (BP i),Nat.div_eq_of_lt hp,Nat.zero_add];rfl
theorem qxD {x k:Nat} (hx:x<BB):lim x k=if k=0 then x else 0:=by
 unfold lim;split
 ·rename_i h;subst h;simp [Nat.mod_eq_of_lt hx]
 ·rename_i h
  have:x<BB^k:=Nat.lt_of_lt_of_le hx (by
   have:=Nat.pow_le_pow_right qbH (show 1≤k by omega)
   simpa using this)
  rw [Nat.div_eq_of_lt this];simp
theorem qjK {v i k:Nat} (hv:v<BB^i) (h:i≤k):lim v k=0:=by
 have:=qrV (x:=0) hv h
 simpa [qfN] using this
theorem qmW {v w n:Nat} (h:∀ k,k<n→lim v k=lim w k):v%BB^n=w%BB^n:=by
 induction n with
 | zero=>simp [Nat.mod_one]
 | succ n ih=>rw [qbF,qbF,ih (fun k hk=>h k (by omega)),h n (by omega)]
theorem qoZ {v w n:Nat} (hv:v<BB^n) (hw:w<BB^n) (h:∀ k,k<n→lim v k=lim w k):v=w:=by
 have:=qmW h
 rwa [Nat.mod_eq_of_lt hv,Nat.mod_eq_of_lt hw] at this
def upd (v i x:Nat):Nat:=v%BB^i+x*BB^i+v / BB^(i+1)*BB^(i+1)
theorem qiS {v i x k:Nat} (hx:x<BB):lim (upd v i x) k=if k=i then x else lim v k:=by
 have h0:v%BB^i<BB^i:=Nat.mod_lt _ (BP i)
 have h1:v%BB^i+x*BB^i<BB^(i+1):=by
  have:x*BB^i+BB^i≤BB*BB^i:=by rw [←Nat.succ_mul];exact Nat.mul_le_mul_right _ hx
  rw [Nat.pow_succ'];omega
 unfold upd;rcases Nat.lt_trichotomy k i with h|h|h
 ·rw [if_neg (by omega),qrU (by omega),qrU h];unfold lim;have e:BB^i=BB^k*BB^(i - k):=by rw [←Nat.pow_add];congr 1;omega
  have hm:v%BB^i / BB^k=v / BB^k%BB^(i - k):=by rw [e,Nat.mod_mul_right_div_self]
  rw [hm];have e2:BB^(i - k)=BB*BB^(i - k - 1):=by rw [←Nat.pow_succ'];congr 1;omega
  rw [e2,Nat.mod_mul_right_mod]
 ·subst h;rw [if_pos rfl,qrU (by omega),qrV h0 (Nat.le_refl _),Nat.sub_self,qxD hx,if_pos rfl]
 ·rw [if_neg (by omega),qrV h1 (by omega)];unfold lim;rw [Nat.div_div_eq_div_mul,←Nat.pow_add];congr 3;omega
theorem qgK (v i x:Nat):upd v i x+lim v i*BB^i=v+x*BB^i:=by
 have h1:=qbF v i;have h2:=Nat.mod_add_div v (BB^(i+1));unfold upd;rw [Nat.mul_comm] at h2;omega
theorem qkA {v i x n:Nat} (hv:v<BB^n) (hi:i<n) (hx:x<BB):upd v i x<BB^n:=by
 have h0:v%BB^i<BB^i:=Nat.mod_lt _ (BP i)
 have h1:v%BB^i+x*BB^i<BB^(i+1):=by
  have:x*BB^i+BB^i≤BB*BB^i:=by rw [←Nat.succ_mul];exact Nat.mul_le_mul_right _ hx
  rw [Nat.pow_succ'];omega
 have e:BB^n=BB^(n - (i+1))*BB^(i+1):=by rw [←Nat.pow_add];congr 1;omega
 have h2:v / BB^(i+1)<BB^(n - (i+1)):=by
  rw [Nat.div_lt_iff_lt_mul (BP _),←e];exact hv
 have h3:v / BB^(i+1)*BB^(i+1)+BB^(i+1)≤BB^n:=by
  rw [←Nat.succ_mul,e];exact Nat.mul_le_mul_right _ h2
 unfold upd;omega
theorem jhJ {v i x n:Nat} (hi:i<n) (hx:x<BB):(dg n v).set i x=dg n (upd v i x):=by
 apply List.ext_getElem?
 intro k;rw [List.getElem?_set];by_cases hk:k<n
 ·rw [qiC _ hk,qiC _ hk,qiS hx];by_cases e:i=k
  ·subst e;simp [qhF,hk]
  ·rw [if_neg e,if_neg (Ne.symm e)]
 ·rw [if_neg (by omega),List.getElem?_eq_none (by rw [qhF];omega),List.getElem?_eq_none (by rw [qhF];omega)]
theorem qcG (v k:Nat):v / BB^k=lim v k+v / BB^(k+1)*BB:=by
 rw [Nat.pow_succ,←Nat.div_div_eq_div_mul]
 have:=Nat.mod_add_div (v / BB^k) BB
 unfold lim;rw [Nat.mul_comm] at this;omega
theorem qgY {a b k:Nat} (h:a / BB^(k+1)=b / BB^(k+1)) (hl:lim a k<lim b k):a<b:=by
 have h1:=qcG a k;have h2:=qcG b k;have h3:a / BB^k<b / BB^k:=by rw [h1,h2,h];omega
 exact Nat.lt_of_not_le (fun hle=>absurd (Nat.div_le_div_right hle) (Nat.not_le.2 h3))
theorem qjQ {a b k:Nat} (h:a / BB^(k+1)=b / BB^(k+1)) (hl:lim a k=lim b k):a / BB^k=b / BB^k:=by rw [qcG a k,qcG b k,h,hl]
end Big
end Go.Proofs.YtemoddmadfoaiaaGreat
namespace Go.Proofs.YtemoddmadfoaiaaGreat
namespace Big
theorem qdI (i:Nat):BB^(i+1)=BB*BB^i:=Nat.pow_succ'
theorem qhN {P d i:Nat} (hP:P<BB^i) (hd:d<BB):P+d*BB^i<BB^(i+1):=by
 have:d*BB^i+BB^i≤BB*BB^i:=by rw [←Nat.succ_mul];exact Nat.mul_le_mul_right _ hd
 rw [qdI];omega
theorem qrC {a b P c d c' i:Nat} (h:P+c*BB^i=a%BB^i+b%BB^i) (hv:lim a i+lim b i+c=d+c'*BB) :
  P+d*BB^i+c'*BB^(i+1)=a%BB^(i+1)+b%BB^(i+1):=by
 rw [qbF a,qbF b,qdI];have e:=congrArg (·*BB^i) hv;simp only [Nat.add_mul,Nat.mul_assoc] at e;omega
theorem qpD {a b P c d c' i:Nat} (h:P+b%BB^i=a%BB^i+c*BB^i) (hv:d+lim b i+c=lim a i+c'*BB) :
  P+d*BB^i+b%BB^(i+1)=a%BB^(i+1)+c'*BB^(i+1):=by
 rw [qbF a,qbF b,qdI];have e:=congrArg (·*BB^i) hv;simp only [Nat.add_mul,Nat.mul_assoc] at e;omega
theorem jcH {m P bit c d c' i:Nat} (h:P+c*BB^i=2*(m%BB^i)+bit) (hv:d+c'*BB=2*lim m i+c) :
  P+d*BB^i+c'*BB^(i+1)=2*(m%BB^(i+1))+bit:=by
 rw [qbF m,qdI];have e:=congrArg (·*BB^i) hv;simp only [Nat.add_mul,Nat.mul_assoc] at e;omega
theorem qrO {a b P x y c d c' i j:Nat} (h:P+c*BB^(i+j)=(a%BB^i)*b+x*(b%BB^j)*BB^i) (hx:x=lim a i) (hy:y=lim b j)
  (hv:x*y+lim P (i+j)+c=d+c'*BB):upd P (i+j) d+c'*BB^(i+(j+1))=(a%BB^i)*b+x*(b%BB^(j+1))*BB^i:=by
 have e:=congrArg (·*BB^(i+j)) hv;have u:=qgK P (i+j) d
 have e2:x*(b%BB^(j+1))*BB^i=x*(b%BB^j)*BB^i+x*y*BB^(i+j):=by
  rw [qbF b,Nat.mul_add,Nat.add_mul,hy,Nat.pow_add];congr 1
  simp only [Nat.mul_assoc,Nat.mul_left_comm,Nat.mul_comm]
 have e3:c'*BB^(i+(j+1))=c'*BB*BB^(i+j):=by rw [←Nat.add_assoc,qdI,Nat.mul_assoc]
 rw [e2,e3];simp only [Nat.add_mul] at e;omega
theorem qwQ {a b P x i:Nat} (h:P=(a%BB^i)*b+x*b*BB^i) (hx:x=lim a i):P=(a%BB^(i+1))*b:=by
 rw [qbF a,Nat.add_mul,h,hx];congr 1
 simp only [Nat.mul_assoc,Nat.mul_left_comm,Nat.mul_comm]
def IsLimbs (v n:Nat):Prop:=v<BB^n∧(0<n→BB^(n - 1)≤v)
theorem qdO {v k:Nat} (h:v<BB^(k+1)) (hz:lim v k=0):v<BB^k:=by
 have:=qbF v k
 rw [Nat.mod_eq_of_lt h,hz] at this;have h2:=Nat.mod_lt v (BP k);omega
theorem qhP {v k:Nat} (hz:lim v k≠0):BB^k≤v:=by
 refine Nat.le_of_not_lt (fun h=>hz ?_);exact qjK h (Nat.le_refl _)
theorem IsLimbs.unique {v n m:Nat} (hn:IsLimbs v n) (hm:IsLimbs v m):n=m:=by
 rcases Nat.lt_trichotomy n m with h|h|h
 ·have h1:=hm.2 (by omega);have h2:=Nat.pow_le_pow_right qbH (show n≤m - 1 by omega);have h3:=hn.1;omega
 ·exact h
 ·have h1:=hn.2 (by omega);have h2:=Nat.pow_le_pow_right qbH (show m≤n - 1 by omega);have h3:=hm.1;omega
theorem IsLimbs.zero {n:Nat} (h:IsLimbs 0 n):n=0:=by
 rcases Nat.eq_zero_or_pos n with h0|h0
 ·exact h0
 ·have:=h.2 h0;have:=BP (n - 1);omega
theorem IsLimbs.pos {v n:Nat} (h:IsLimbs v n) (hn:0<n):0<v:=by have:=h.2 hn;have:=BP (n - 1);omega
theorem IsLimbs.eq_zero {v:Nat} (h:IsLimbs v 0):v=0:=by have:=h.1;simp at this;exact this
end Big
end Go.Proofs.YtemoddmadfoaiaaGreat
namespace Go.Proofs.YtemoddmadfoaiaaGreat
namespace Big
theorem qdB:BB=2^32:=by unfold BB;decide
theorem qfY (k:Nat):BB^k=2^(32*k):=by rw [qdB,←Nat.pow_mul]
theorem tp (k:Nat):0<2^k:=Nat.pow_pos (by omega)
def IsBits (v n:Nat):Prop:=v<2^n∧(0<n→2^(n - 1)≤v)
theorem IsBits.unique {v n m:Nat} (hn:IsBits v n) (hm:IsBits v m):n=m:=by
 rcases Nat.lt_trichotomy n m with h|h|h
 ·have h1:=hm.2 (by omega);have h2:=Nat.pow_le_pow_right (show 0<2 by omega) (show n≤m - 1 by omega);have h3:=hn.1;omega
 ·exact h
 ·have h1:=hn.2 (by omega);have h2:=Nat.pow_le_pow_right (show 0<2 by omega) (show m≤n - 1 by omega);have h3:=hm.1;omega
theorem IsBits.half {v n:Nat} (h:IsBits v n) (hv:0<v):0<n∧IsBits (v / 2) (n - 1):=by
 have hn:0<n:=by
  rcases Nat.eq_zero_or_pos n with h0|h0
  ·subst h0;have:=h.1;simp at this;omega
  ·exact h0
 obtain ⟨m,rfl⟩:∃ m,n=m+1:=⟨n - 1,by omega⟩;have h1:=h.1;have h2:=h.2 hn;simp only [Nat.add_sub_cancel] at h2 ⊢;refine ⟨hn,by rw [Nat.pow_succ] at h1;omega,fun hm=>?_⟩;obtain ⟨j,rfl⟩:∃ j,m=j+1:=⟨m - 1,by omega⟩;simp only [Nat.add_sub_cancel];rw [Nat.pow_succ] at h2;omega
theorem qaO (v:Nat):∃ n,IsBits v n:=by
 by_cases h:v=0
 ·exact ⟨0,by subst h;simp,fun h=>by omega⟩
 ·refine ⟨Nat.log2 v+1,Nat.lt_log2_self,fun _=>?_⟩;exact Nat.log2_self_le h
theorem IsBits.zero {n:Nat} (h:IsBits 0 n):n=0:=by
 rcases Nat.eq_zero_or_pos n with h0|h0
 ·exact h0
 ·have:=h.2 h0;have:=tp (n - 1);omega
theorem qpJ {v n m:Nat} (h:v<BB^(n+1)) (hz:lim v n≠0) (hm:IsBits (lim v n) m):IsBits v (32*n+m):=by
 have h1:v / BB^n=lim v n:=by
  unfold lim;rw [Nat.mod_eq_of_lt];rw [Nat.div_lt_iff_lt_mul (BP n),←qdI];exact h
 have hm0:0<m:=by
  rcases Nat.eq_zero_or_pos m with h0|h0
  ·subst h0;have:=hm.1;simp at this;omega
  ·exact h0
 refine ⟨?_,fun _=>?_⟩
 ·rw [Nat.pow_add,←qfY,Nat.mul_comm,←Nat.div_lt_iff_lt_mul (BP n),h1];exact hm.1
 ·rw [show 32*n+m - 1=32*n+(m - 1) by omega,Nat.pow_add,←qfY,Nat.mul_comm,←Nat.le_div_iff_mul_le (BP n),h1];exact hm.2 hm0
theorem qiB {a b i:Nat} (h:b<2^i) (ha:a%2^i=0):a ||| b=a+b:=by
 have e:a=2^i*(a / 2^i):=by have:=Nat.mod_add_div a (2^i);omega
 rw [e,←Nat.two_pow_add_eq_or_of_lt h]
theorem qgM (m k s i:Nat) (hs:s<32):lim (m / 2^(32*k+s)) i=lim m (i+k) / 2^s+lim m (i+k+1)%2^s*2^(32 - s):=by
 have e1:m / 2^(32*k+s) / BB^i=m / BB^(i+k) / 2^s:=by
  rw [qfY,qfY,Nat.div_div_eq_div_mul,Nat.div_div_eq_div_mul,←Nat.pow_add,←Nat.pow_add];congr 2;omega
 have e2:m / BB^(i+k)=lim m (i+k)+m / BB^(i+k+1)*BB:=qcG m (i+k);have e3:BB=2^s*2^(32 - s):=by rw [qdB,←Nat.pow_add];congr 1;omega
 unfold lim at *;rw [e1,e2];obtain ⟨x,hx⟩:∃ x,x=m / BB^(i+k)%BB:=⟨_,rfl⟩;obtain ⟨y,hy⟩:∃ y,y=m / BB^(i+k+1):=⟨_,rfl⟩;have hxl:x<BB:=by rw [hx];exact Nat.mod_lt _ qbH
 rw [←hx,←hy];obtain ⟨S,hS⟩:∃ S,S=2^s:=⟨_,rfl⟩;obtain ⟨T,hT⟩:∃ T,T=2^(32 - s):=⟨_,rfl⟩;have hS0:0<S:=by rw [hS];exact tp s
 have hT0:0<T:=by rw [hT];exact tp _
 rw [←hS,←hT] at e3 ⊢;rw [e3] at hxl ⊢
 have d1:(x+y*(S*T)) / S=x / S+y*T:=by
  rw [show y*(S*T)=S*(y*T) by simp only [Nat.mul_left_comm,Nat.mul_comm],Nat.add_mul_div_left _ _ hS0]
 have d2:y%(S*T)%S=y%S:=Nat.mod_mul_right_mod _ _ _;have d3:y*T%(S*T)=y%S*T:=Nat.mul_mod_mul_right _ _ _;have hxs:x / S<T:=by rw [Nat.div_lt_iff_lt_mul hS0,Nat.mul_comm];exact hxl
 rw [d1,d2,Nat.add_mod,d3,Nat.mod_eq_of_lt (show x / S<S*T from Nat.lt_of_lt_of_le hxs (Nat.le_mul_of_pos_left _ hS0))];have h1:y%S<S:=Nat.mod_lt _ hS0;have h2:y%S*T+T≤S*T:=by rw [←Nat.succ_mul];exact Nat.mul_le_mul_right _ h1
 have h3:x / S+y%S*T<S*T:=Nat.lt_of_lt_of_le (Nat.add_lt_add_right hxs _) (by rw [Nat.add_comm];exact h2);rw [Nat.mod_eq_of_lt h3,Nat.add_mul_mod_self_right,Nat.mod_eq_of_lt hxl]
theorem jgC (a i:Nat):lim a (i / 32) / 2^(i%32)%2=a / 2^i%2:=by
 have h:=qgM a (i / 32) (i%32) 0 (by omega)
 have h2:lim (a / 2^(32*(i / 32)+i%32)) 0%2=a / 2^i%2:=by
  unfold lim;rw [show 32*(i / 32)+i%32=i by omega,Nat.pow_zero,Nat.div_one,Nat.mod_mod_of_dvd];unfold BB;omega
 rw [←h2,h,Nat.zero_add,Nat.add_mod]
 have h3:lim a (i / 32+1)%2^(i%32)*2^(32 - i%32)%2=0:=by
  rw [show 32 - i%32=(31 - i%32)+1 by omega,Nat.pow_succ,←Nat.mul_assoc];exact Nat.mul_mod_left _ _
 rw [h3];omega
theorem jcB {a b q r i:Nat} (h:a / 2^(i+1)=q*b+r) (hr:r<b) :
  (b≤2*r+a / 2^i%2→a / 2^i=(2*q+1)*b+(2*r+a / 2^i%2 - b)∧2*r+a / 2^i%2 - b<b) ∧
  (2*r+a / 2^i%2<b→a / 2^i=2*q*b+(2*r+a / 2^i%2)):=by
 have h1:a / 2^i=2*(a / 2^(i+1))+a / 2^i%2:=by
  rw [Nat.pow_succ,←Nat.div_div_eq_div_mul];omega
 have hb:a / 2^i%2<2:=Nat.mod_lt _ (by omega);obtain ⟨c,hc⟩:∃ c,c=a / 2^i%2:=⟨_,rfl⟩;rw [←hc] at h1 hb ⊢;rw [h] at h1;have h2:2*(q*b+r)=2*q*b+2*r:=by rw [Nat.mul_add,Nat.mul_assoc]
 have h3:(2*q+1)*b=2*q*b+b:=by rw [Nat.add_mul,Nat.one_mul]
 refine ⟨fun hle=>⟨?_,by omega⟩,fun hlt=>?_⟩
 ·rw [h1,h2,h3];omega
 ·rw [h1,h2];omega
end Big
end Go.Proofs.YtemoddmadfoaiaaGreat
namespace Go.Proofs.YtemoddmadfoaiaaGreat
namespace Big
theorem jbI {X V j n v2 u3 q:Nat} (hn:2≤n) (hv:v2=V / BB^(n - 2)) (hu:u3=X / BB^(j+n - 2)) (hq:q=X / (V*BB^j)):q*v2≤u3:=by
 have h1:q*(V*BB^j)≤X:=by rw [hq];exact Nat.div_mul_le_self _ _
 have h2:v2*BB^(n - 2)≤V:=by rw [hv];exact Nat.div_mul_le_self _ _
 rw [hu,Nat.le_div_iff_mul_le (BP _)];have e:BB^(j+n - 2)=BB^(n - 2)*BB^j:=by rw [←Nat.pow_add];congr 1;omega
 rw [e]
 calc q*v2*(BB^(n - 2)*BB^j)=q*(v2*BB^(n - 2)*BB^j):=by simp only [Nat.mul_assoc]
  _≤q*(V*BB^j):=Nat.mul_le_mul_left _ (Nat.mul_le_mul_right _ h2)
  _≤X:=h1
theorem jfK {X V j n v2 u3 q g:Nat} (hn:2≤n) (hv:v2=V / BB^(n - 2)) (hu:u3=X / BB^(j+n - 2)) (hq:q=X / (V*BB^j)) (hV:BB^(n - 1)≤V) (hg:g*v2≤u3) (hgB:g<BB):g≤q+1:=by
 have hVp:0<V*BB^j:=Nat.mul_pos (Nat.lt_of_lt_of_le (BP _) hV) (BP j);have h1:V<(v2+1)*BB^(n - 2):=by rw [hv];exact Nat.lt_mul_of_div_lt (Nat.lt_succ_self _) (BP _)
 have h2:u3*BB^(j+n - 2)≤X:=by rw [hu];exact Nat.div_mul_le_self _ _
 have e:BB^(j+n - 2)=BB^(n - 2)*BB^j:=by rw [←Nat.pow_add];congr 1;omega
 have e2:BB^(n - 1)=BB*BB^(n - 2):=by rw [←qdI];congr 1;omega
 have h3:g*(V*BB^j)≤X+g*(BB^(n - 2)*BB^j):=by
  calc g*(V*BB^j)≤g*((v2+1)*BB^(n - 2)*BB^j):=Nat.mul_le_mul_left _ (Nat.mul_le_mul_right _ (Nat.le_of_lt h1))
   _=g*v2*(BB^(n - 2)*BB^j)+g*(BB^(n - 2)*BB^j):=by
    rw [Nat.add_mul,Nat.add_mul,Nat.mul_add,Nat.one_mul];simp only [Nat.mul_assoc]
   _≤u3*(BB^(n - 2)*BB^j)+g*(BB^(n - 2)*BB^j):=Nat.add_le_add_right (Nat.mul_le_mul_right _ hg) _
   _≤X+g*(BB^(n - 2)*BB^j):=by rw [←e];exact Nat.add_le_add_right h2 _
 have h4:g*(BB^(n - 2)*BB^j)<V*BB^j:=by
  calc g*(BB^(n - 2)*BB^j)<BB*(BB^(n - 2)*BB^j):=Nat.mul_lt_mul_of_pos_right hgB (Nat.mul_pos (BP _) (BP _))
   _=BB^(n - 1)*BB^j:=by rw [e2,Nat.mul_assoc]
   _≤V*BB^j:=Nat.mul_le_mul_right _ hV
 have h5:g*(V*BB^j)<X+V*BB^j:=by omega
 have h6:=Nat.div_add_mod X (V*BB^j);rw [←hq] at h6;have h7:=Nat.mod_lt X hVp
 have h8:g*(V*BB^j)<(q+2)*(V*BB^j):=by
  rw [Nat.add_mul]
  have:V*BB^j*q=q*(V*BB^j):=Nat.mul_comm _ _
  omega
 have:=Nat.lt_of_mul_lt_mul_right h8
 omega
theorem jaF {X V P g i j c b b2 tl th w:Nat} (h:P+g*(V%BB^i)*BB^j=X+(c+b)*BB^(i+j)) (ht:g*lim V i+c=tl+th*BB) (hw:w+tl+b=lim P (i+j)+b2*BB) :
  upd P (i+j) w+g*(V%BB^(i+1))*BB^j=X+(th+b2)*BB^(i+1+j):=by
 have u:=qgK P (i+j) w
 have e1:g*(V%BB^(i+1))*BB^j=g*(V%BB^i)*BB^j+g*lim V i*BB^(i+j):=by
  rw [qbF V,Nat.mul_add,Nat.add_mul,Nat.pow_add];simp only [Nat.mul_assoc]
 have e2:(th+b2)*BB^(i+1+j)=(th*BB+b2*BB)*BB^(i+j):=by
  rw [show i+1+j=(i+j)+1 by omega,qdI,←Nat.add_mul,Nat.mul_assoc]
 rw [e1,e2];have f1:=congrArg (·*BB^(i+j)) ht;have f2:=congrArg (·*BB^(i+j)) hw;simp only [Nat.add_mul] at f1 f2 h ⊢;omega
theorem qzJ {P V Q i j c c2 d:Nat} (h:Q+c*BB^(i+j)=P+V%BB^i*BB^j) (hd:lim Q (i+j)+lim V i+c=d+c2*BB) :
  upd Q (i+j) d+c2*BB^(i+1+j)=P+V%BB^(i+1)*BB^j:=by
 have u:=qgK Q (i+j) d
 have e1:V%BB^(i+1)*BB^j=V%BB^i*BB^j+lim V i*BB^(i+j):=by
  rw [qbF V,Nat.add_mul,Nat.pow_add,Nat.mul_assoc]
 have e2:c2*BB^(i+1+j)=c2*BB*BB^(i+j):=by rw [show i+1+j=(i+j)+1 by omega,qdI,Nat.mul_assoc]
 rw [e1,e2];have f1:=congrArg (·*BB^(i+j)) hd;simp only [Nat.add_mul] at f1 h ⊢;omega
theorem jdU {X V P g n j c b b2 w q:Nat} (h:P+g*(V%BB^n)*BB^j=X+(c+b)*BB^(n+j)) (hV:V<BB^n) (hw:w+c+b=lim P (n+j)+b2*BB) (hX:X<V*BB^(j+1)) (hV0:0<V)
  (hq:q=X / (V*BB^j)) (hg1:q≤g) (hg2:g≤q+1) (hP:upd P (n+j) w<BB^(n+j+1)) :
  (b2=0→g=q∧upd P (n+j) w=X%(V*BB^j))∧(b2≠0→g=q+1∧upd P (n+j) w+V*BB^j=X%(V*BB^j)+BB^(n+j+1)):=by
 have u:=qgK P (n+j) w;rw [Nat.mod_eq_of_lt hV] at h;have f2:=congrArg (·*BB^(n+j)) hw;have e2:b2*BB*BB^(n+j)=b2*BB^(n+j+1):=by rw [qdI,Nat.mul_assoc]
 simp only [Nat.add_mul,e2] at f2 h;have key:upd P (n+j) w+g*V*BB^j=X+b2*BB^(n+j+1):=by omega
 have hVp:0<V*BB^j:=Nat.mul_pos hV0 (BP j);have h6:=Nat.div_add_mod X (V*BB^j);rw [←hq] at h6;have h7:=Nat.mod_lt X hVp;have hVB:V*BB^j<BB^(n+j):=by rw [Nat.pow_add];exact Nat.mul_lt_mul_of_pos_right hV (BP j)
 have hBB:BB^(n+j)≤BB^(n+j+1):=Nat.pow_le_pow_right qbH (by omega)
 have hb1:b2≤1:=by
  rcases Nat.lt_or_ge 1 b2 with hc|hc
  ·exfalso
   have:2*BB^(n+j+1)≤b2*BB^(n+j+1):=Nat.mul_le_mul_right _ hc
   have hgV:g*V*BB^j≤X+V*BB^j:=by
    have:g*V*BB^j≤(q+1)*V*BB^j:=Nat.mul_le_mul_right _ (Nat.mul_le_mul_right _ hg2)
    have e:(q+1)*V*BB^j=V*BB^j*q+V*BB^j:=by rw [Nat.mul_assoc,Nat.add_mul,Nat.one_mul,Nat.mul_comm q]
    omega
   omega
  ·exact hc
 rcases Nat.lt_or_ge q g with hlt|hge
 ·have hgq:g=q+1:=by omega
  have e:g*V*BB^j=V*BB^j*q+V*BB^j:=by rw [hgq,Nat.mul_assoc,Nat.add_mul,Nat.one_mul,Nat.mul_comm q]
  have hb0:b2=1:=by
   rcases Nat.eq_zero_or_pos b2 with h0|h0
   ·rw [h0] at key;omega
   ·omega
  exact ⟨fun h0=>by omega,fun _=>⟨hgq,by rw [hb0] at key;omega⟩⟩
 ·have hgq:g=q:=by omega
  have e:g*V*BB^j=V*BB^j*q:=by rw [hgq,Nat.mul_assoc,Nat.mul_comm q]
  have hb0:b2=0:=by
   rcases Nat.eq_zero_or_pos b2 with h0|h0
   ·exact h0
   ·have:b2=1:=by omega
    rw [this] at key;omega
  exact ⟨fun _=>⟨hgq,by rw [hb0] at key;omega⟩,fun h0=>absurd hb0 h0⟩
theorem jcY {P V Q n j c d o T:Nat} (h:Q+c*BB^(n+j)=P+V%BB^n*BB^j) (hV:V<BB^n) (hd:lim Q (n+j)+c=d+o*BB) (hP:P+V*BB^j=T+BB^(n+j+1)) (hT:T<BB^(n+j+1)) (hR:upd Q (n+j) d<BB^(n+j+1)):upd Q (n+j) d=T:=by
 have u:=qgK Q (n+j) d;rw [Nat.mod_eq_of_lt hV] at h;have f:=congrArg (·*BB^(n+j)) hd;have e2:o*BB*BB^(n+j)=o*BB^(n+j+1):=by rw [qdI,Nat.mul_assoc]
 simp only [Nat.add_mul,e2] at f;have key:upd Q (n+j) d+o*BB^(n+j+1)=T+BB^(n+j+1):=by omega
 rcases Nat.lt_trichotomy o 1 with ho|ho|ho
 ·have:o=0:=by omega
  rw [this] at key;omega
 ·rw [ho] at key;omega
 ·have:2*BB^(n+j+1)≤o*BB^(n+j+1):=Nat.mul_le_mul_right _ ho
  omega
theorem qsF {A Q X V j q:Nat} (h:Q*V+X=A) (hq:q=X / (V*BB^j)) (hQ:lim Q j=0):upd Q j q*V+X%(V*BB^j)=A:=by
 have u:=qgK Q j q;rw [hQ,Nat.zero_mul,Nat.add_zero] at u;rw [u,Nat.add_mul];have h6:=Nat.div_add_mod X (V*BB^j);rw [←hq] at h6;have e:q*BB^j*V=V*BB^j*q:=by rw [Nat.mul_comm (q*BB^j),Nat.mul_comm q,←Nat.mul_assoc]
 omega
theorem jcC {A Q X V:Nat} (h:Q*V+X=A) (hX:X<V):Q=A / V∧X=A%V:=by
 have hV:0<V:=by omega
 constructor
 ·rw [←h,Nat.mul_comm,Nat.mul_add_div hV,Nat.div_eq_of_lt hX,Nat.add_zero]
 ·rw [←h,Nat.mul_comm,Nat.mul_add_mod,Nat.mod_eq_of_lt hX]
end Big
end Go.Proofs.YtemoddmadfoaiaaGreat
