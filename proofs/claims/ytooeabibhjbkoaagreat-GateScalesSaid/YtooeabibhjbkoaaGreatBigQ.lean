import Derived.WalkKit
set_option linter.unusedVariables false
set_option linter.unusedSimpArgs false
namespace Go.Proofs.YtooeabibhjbkoaaGreat
namespace Big
def BB:Nat:=4294967296
theorem qaN:0<BB:=by unfold BB;omega
theorem BP (k:Nat):0<BB^k:=Nat.pow_pos qaN
def lim (v k:Nat):Nat:=v / BB^k%BB
theorem qaC (v k:Nat):lim v k<BB:=Nat.mod_lt _ qaN
def dg (n v:Nat):List Nat:=(List.range n).map (lim v)
theorem qgC (n v:Nat):(dg n v).length=n:=by simp [dg]
theorem qgD {n k:Nat} (v:Nat) (h:k<n):(dg n v)[k]?=some (lim v k):=by simp [dg,h]
theorem qzU {n k:Nat} (v:Nat) (h:k<n):(dg n v).getD k 0=lim v k:=by simp [List.getD,qgD v h]
theorem qeU (k:Nat):lim 0 k=0:=by simp [lim]
theorem qaR (v k:Nat):v%BB^(k+1)=v%BB^k+lim v k*BB^k:=by
 rw [Nat.mod_pow_succ,lim,Nat.mul_comm]
theorem qoQ {p x i k:Nat} (h:k<i):lim (p+x*BB^i) k=lim p k:=by
 have e:x*BB^i=BB^k*(BB*(x*BB^(i - k - 1))):=by
  have:BB^i=BB^k*(BB*BB^(i - k - 1)):=by
   rw [←Nat.pow_succ',←Nat.pow_add];congr 1;omega
  rw [this]
  simp only [Nat.mul_left_comm,Nat.mul_comm]
 rw [lim,e,Nat.add_mul_div_left _ _ (BP k),Nat.add_mul_mod_self_left];rfl
theorem qoR {p x i k:Nat} (hp:p<BB^i) (h:i≤k):lim (p+x*BB^i) k=lim x (k - i):=by
 have e:BB^k=BB^i*BB^(k - i):=by rw [←Nat.pow_add];congr 1;omega
 rw [lim,e,←Nat.div_div_eq_div_mul,Nat.add_mul_div_right _ _ (BP i),Nat.div_eq_of_lt hp,Nat.zero_add];rfl
theorem qsQ {x k:Nat} (hx:x<BB):lim x k=if k=0 then x else 0:=by
 unfold lim
 split
 ·rename_i h;subst h;simp [Nat.mod_eq_of_lt hx]
 ·rename_i h
  have:x<BB^k:=Nat.lt_of_lt_of_le hx (by
   have:=Nat.pow_le_pow_right qaN (show 1≤k by omega)
   simpa using this)
  rw [Nat.div_eq_of_lt this];simp
theorem qhU {v i k:Nat} (hv:v<BB^i) (h:i≤k):lim v k=0:=by
 have:=qoR (x:=0) hv h
 simpa [qeU] using this
theorem qjR {v w n:Nat} (h:∀ k,k<n→lim v k=lim w k):v%BB^n=w%BB^n:=by
 induction n with
 | zero=>simp [Nat.mod_one]
 | succ n ih=>rw [qaR,qaR,ih (fun k hk=>h k (by omega)),h n (by omega)]
theorem qmF {v w n:Nat} (hv:v<BB^n) (hw:w<BB^n) (h:∀ k,k<n→lim v k=lim w k):v=w:=by
 have:=qjR h
 rwa [Nat.mod_eq_of_lt hv,Nat.mod_eq_of_lt hw] at this
def upd (v i x:Nat):Nat:=v%BB^i+x*BB^i+v / BB^(i+1)*BB^(i+1)
theorem qhL {v i x k:Nat} (hx:x<BB):lim (upd v i x) k=if k=i then x else lim v k:=by
 have h0:v%BB^i<BB^i:=Nat.mod_lt _ (BP i)
 have h1:v%BB^i+x*BB^i<BB^(i+1):=by
  have:x*BB^i+BB^i≤BB*BB^i:=by rw [←Nat.succ_mul];exact Nat.mul_le_mul_right _ hx
  rw [Nat.pow_succ'];omega
 unfold upd
 rcases Nat.lt_trichotomy k i with h|h|h
 ·rw [if_neg (by omega),qoQ (by omega),qoQ h]
  unfold lim
  have e:BB^i=BB^k*BB^(i - k):=by rw [←Nat.pow_add];congr 1;omega
  have hm:v%BB^i / BB^k=v / BB^k%BB^(i - k):=by rw [e,Nat.mod_mul_right_div_self]
  rw [hm]
  have e2:BB^(i - k)=BB*BB^(i - k - 1):=by rw [←Nat.pow_succ'];congr 1;omega
  rw [e2,Nat.mod_mul_right_mod]
 ·subst h
  rw [if_pos rfl,qoQ (by omega),qoR h0 (Nat.le_refl _),Nat.sub_self,qsQ hx,if_pos rfl]
 ·rw [if_neg (by omega),qoR h1 (by omega)]
  unfold lim
  rw [Nat.div_div_eq_div_mul,←Nat.pow_add]
  congr 3;omega
theorem qfN (v i x:Nat):upd v i x+lim v i*BB^i=v+x*BB^i:=by
 have h1:=qaR v i
 have h2:=Nat.mod_add_div v (BB^(i+1))
 unfold upd
 rw [Nat.mul_comm] at h2
 omega
theorem qiH {v i x n:Nat} (hv:v<BB^n) (hi:i<n) (hx:x<BB):upd v i x<BB^n:=by
 have h0:v%BB^i<BB^i:=Nat.mod_lt _ (BP i)
 have h1:v%BB^i+x*BB^i<BB^(i+1):=by
  have:x*BB^i+BB^i≤BB*BB^i:=by rw [←Nat.succ_mul];exact Nat.mul_le_mul_right _ hx
  rw [Nat.pow_succ'];omega
 have e:BB^n=BB^(n - (i+1))*BB^(i+1):=by rw [←Nat.pow_add];congr 1;omega
 have h2:v / BB^(i+1)<BB^(n - (i+1)):=by
  rw [Nat.div_lt_iff_lt_mul (BP _),←e];exact hv
 have h3:v / BB^(i+1)*BB^(i+1)+BB^(i+1)≤BB^n:=by
  rw [←Nat.succ_mul,e];exact Nat.mul_le_mul_right _ h2
 unfold upd;omega
theorem jbD {v i x n:Nat} (hi:i<n) (hx:x<BB):(dg n v).set i x=dg n (upd v i x):=by
 apply List.ext_getElem?
 intro k
 rw [List.getElem?_set]
 by_cases hk:k<n
 ·rw [qgD _ hk,qgD _ hk,qhL hx]
  by_cases e:i=k
  ·subst e;simp [qgC,hk]
  ·rw [if_neg e,if_neg (Ne.symm e)]
 ·rw [if_neg (by omega),List.getElem?_eq_none (by rw [qgC];omega),List.getElem?_eq_none (by rw [qgC];omega)]
theorem qbN (v k:Nat):v / BB^k=lim v k+v / BB^(k+1)*BB:=by
 rw [Nat.pow_succ,←Nat.div_div_eq_div_mul]
 have:=Nat.mod_add_div (v / BB^k) BB
 unfold lim
 rw [Nat.mul_comm] at this;omega
theorem qfV {a b k:Nat} (h:a / BB^(k+1)=b / BB^(k+1)) (hl:lim a k<lim b k):a<b:=by
 have h1:=qbN a k
 have h2:=qbN b k
 have h3:a / BB^k<b / BB^k:=by rw [h1,h2,h];omega
 exact Nat.lt_of_not_le (fun hle=>absurd (Nat.div_le_div_right hle) (Nat.not_le.2 h3))
theorem qiB {a b k:Nat} (h:a / BB^(k+1)=b / BB^(k+1)) (hl:lim a k=lim b k):a / BB^k=b / BB^k:=by rw [qbN a k,qbN b k,h,hl]
end Big
end Go.Proofs.YtooeabibhjbkoaaGreat
namespace Go.Proofs.YtooeabibhjbkoaaGreat
namespace Big
theorem qcK (i:Nat):BB^(i+1)=BB*BB^i:=Nat.pow_succ'
theorem qgM {P d i:Nat} (hP:P<BB^i) (hd:d<BB):P+d*BB^i<BB^(i+1):=by
 have:d*BB^i+BB^i≤BB*BB^i:=by rw [←Nat.succ_mul];exact Nat.mul_le_mul_right _ hd
 rw [qcK];omega
theorem qoG {a b P c d c' i:Nat} (h:P+c*BB^i=a%BB^i+b%BB^i) (hv:lim a i+lim b i+c=d+c'*BB) :
  P+d*BB^i+c'*BB^(i+1)=a%BB^(i+1)+b%BB^(i+1):=by
 rw [qaR a,qaR b,qcK]
 have e:=congrArg (·*BB^i) hv
 simp only [Nat.add_mul,Nat.mul_assoc] at e
 omega
theorem qmK {a b P c d c' i:Nat} (h:P+b%BB^i=a%BB^i+c*BB^i) (hv:d+lim b i+c=lim a i+c'*BB) :
  P+d*BB^i+b%BB^(i+1)=a%BB^(i+1)+c'*BB^(i+1):=by
 rw [qaR a,qaR b,qcK]
 have e:=congrArg (·*BB^i) hv
 simp only [Nat.add_mul,Nat.mul_assoc] at e
 omega
theorem qwL {m P bit c d c' i:Nat} (h:P+c*BB^i=2*(m%BB^i)+bit) (hv:d+c'*BB=2*lim m i+c) :
  P+d*BB^i+c'*BB^(i+1)=2*(m%BB^(i+1))+bit:=by
 rw [qaR m,qcK]
 have e:=congrArg (·*BB^i) hv
 simp only [Nat.add_mul,Nat.mul_assoc] at e
 omega
theorem qoO {a b P x y c d c' i j:Nat} (h:P+c*BB^(i+j)=(a%BB^i)*b+x*(b%BB^j)*BB^i) (hx:x=lim a i) (hy:y=lim b j)
  (hv:x*y+lim P (i+j)+c=d+c'*BB):upd P (i+j) d+c'*BB^(i+(j+1))=(a%BB^i)*b+x*(b%BB^(j+1))*BB^i:=by
 have e:=congrArg (·*BB^(i+j)) hv
 have u:=qfN P (i+j) d
 have e2:x*(b%BB^(j+1))*BB^i=x*(b%BB^j)*BB^i+x*y*BB^(i+j):=by
  rw [qaR b,Nat.mul_add,Nat.add_mul,hy,Nat.pow_add]
  congr 1
  simp only [Nat.mul_assoc,Nat.mul_left_comm,Nat.mul_comm]
 have e3:c'*BB^(i+(j+1))=c'*BB*BB^(i+j):=by rw [←Nat.add_assoc,qcK,Nat.mul_assoc]
 rw [e2,e3]
 simp only [Nat.add_mul] at e
 omega
theorem qsH {a b P x i:Nat} (h:P=(a%BB^i)*b+x*b*BB^i) (hx:x=lim a i):P=(a%BB^(i+1))*b:=by
 rw [qaR a,Nat.add_mul,h,hx]
 congr 1
 simp only [Nat.mul_assoc,Nat.mul_left_comm,Nat.mul_comm]
def IsLimbs (v n:Nat):Prop:=v<BB^n∧(0<n→BB^(n - 1)≤v)
theorem qcR {v k:Nat} (h:v<BB^(k+1)) (hz:lim v k=0):v<BB^k:=by
 have:=qaR v k
 rw [Nat.mod_eq_of_lt h,hz] at this
 have h2:=Nat.mod_lt v (BP k)
 omega
theorem qgN {v k:Nat} (hz:lim v k≠0):BB^k≤v:=by
 refine Nat.le_of_not_lt (fun h=>hz ?_)
 exact qhU h (Nat.le_refl _)
theorem IsLimbs.unique {v n m:Nat} (hn:IsLimbs v n) (hm:IsLimbs v m):n=m:=by
 rcases Nat.lt_trichotomy n m with h|h|h
 ·have h1:=hm.2 (by omega)
  have h2:=Nat.pow_le_pow_right qaN (show n≤m - 1 by omega)
  have h3:=hn.1
  omega
 ·exact h
 ·have h1:=hn.2 (by omega)
  have h2:=Nat.pow_le_pow_right qaN (show m≤n - 1 by omega)
  have h3:=hm.1
  omega
theorem IsLimbs.zero {n:Nat} (h:IsLimbs 0 n):n=0:=by
 rcases Nat.eq_zero_or_pos n with h0|h0
 ·exact h0
 ·have:=h.2 h0;have:=BP (n - 1);omega
theorem IsLimbs.pos {v n:Nat} (h:IsLimbs v n) (hn:0<n):0<v:=by have:=h.2 hn;have:=BP (n - 1);omega
theorem IsLimbs.eq_zero {v:Nat} (h:IsLimbs v 0):v=0:=by have:=h.1;simp at this;exact this
end Big
end Go.Proofs.YtooeabibhjbkoaaGreat
