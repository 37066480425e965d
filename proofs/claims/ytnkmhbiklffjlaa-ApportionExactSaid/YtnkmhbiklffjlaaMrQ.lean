import Derived.Lib.Hide
set_option linter.unusedVariables false
set_option linter.unusedSimpArgs false
namespace Go.Proofs.Ytnkmhbiklffjlaa
namespace Mr
variable {R:Nat→Nat→Prop}
theorem pw_get {l:List Nat} (h:l.Pairwise R) {i j x y:Nat} (hx:l[i]?=some x) (hy:l[j]?=some y) (hij:i<j):R x y:=by
 obtain ⟨hi,rfl⟩:=List.getElem?_eq_some_iff.1 hx
 obtain ⟨hj,rfl⟩:=List.getElem?_eq_some_iff.1 hy
 exact List.pairwise_iff_getElem.1 h i j hi hj hij
theorem mem_take' {l:List Nat} {i x:Nat} (h:x∈l.take i):∃ k,k<i∧l[k]?=some x:=by
 obtain ⟨k,hk⟩:=List.mem_iff_getElem?.1 h
 have hki:k<i:=by
  rcases Nat.lt_or_ge k i with h1|h1
  ·exact h1
  ·rw [List.getElem?_eq_none (by rw [List.length_take];omega)] at hk;cases hk
 exact ⟨k,hki,by rwa [List.getElem?_take_of_lt hki] at hk⟩
theorem mem_drop' {l:List Nat} {i x:Nat} (h:x∈l.drop i):∃ k,i≤k∧l[k]?=some x:=by
 obtain ⟨k,hk⟩:=List.mem_iff_getElem?.1 h
 exact ⟨i+k,by omega,by rwa [List.getElem?_drop] at hk⟩
theorem cut_le (tr:∀ a b c,R a b→R b c→R a c) {A B:List Nat} (hA:A.Pairwise R) (hB:B.Pairwise R) {i j:Nat} (h:i=0∨B.length≤j∨∃ x y,A[i - 1]?=some x∧B[j]?=some y∧R x y) :
  ∀ x∈A.take i,∀ y∈B.drop j,R x y:=by
 intro x hx y hy
 obtain ⟨k,hk,hxk⟩:=mem_take' hx
 obtain ⟨q,hq,hyq⟩:=mem_drop' hy
 rcases h with rfl|h|⟨u,v,hu,hv,huv⟩
 ·omega
 ·rw [List.getElem?_eq_none (by omega)] at hyq;cases hyq
 ·have h1:x=u∨R x u:=by
   rcases Nat.lt_or_ge k (i - 1) with h1|h1
   ·exact .inr (pw_get hA hxk hu h1)
   ·have:k=i - 1:=by omega
    subst this;rw [hxk] at hu;injection hu with hu;exact .inl hu
  have h2:y=v∨R v y:=by
   rcases Nat.lt_or_ge j q with h1|h1
   ·exact .inr (pw_get hB hv hyq h1)
   ·have:q=j:=by omega
    subst this;rw [hyq] at hv;injection hv with hv;exact .inl hv
  rcases h1 with rfl|h1<;>rcases h2 with rfl|h2
  ·exact huv
  ·exact tr _ _ _ huv h2
  ·exact tr _ _ _ h1 huv
  ·exact tr _ _ _ (tr _ _ _ h1 huv) h2
theorem halves {A B C1 C2:List Nat} {i j:Nat} (hA:A.Pairwise R) (hB:B.Pairwise R) (h1:∀ x∈A.take i,∀ y∈B.drop j,R x y) (h2:∀ x∈B.take j,∀ y∈A.drop i,R x y)
  (p1:C1.Perm (A.take i++B.take j)) (s1:C1.Pairwise R) (p2:C2.Perm (A.drop i++B.drop j)) (s2:C2.Pairwise R):(C1++C2).Pairwise R∧(C1++C2).Perm (A++B):=by
 have hAA:=hA
 have hBB:=hB
 rw [←List.take_append_drop i A,List.pairwise_append] at hAA
 rw [←List.take_append_drop j B,List.pairwise_append] at hBB
 refine ⟨List.pairwise_append.2 ⟨s1,s2,fun x hx y hy=>?_⟩,?_⟩
 ·rcases List.mem_append.1 (p1.mem_iff.1 hx) with hx|hx<;>rcases List.mem_append.1 (p2.mem_iff.1 hy) with hy|hy
  ·exact hAA.2.2 x hx y hy
  ·exact h1 x hx y hy
  ·exact h2 x hx y hy
  ·exact hBB.2.2 x hx y hy
 ·refine (p1.append p2).trans ?_
  have e:A.take i++B.take j++(A.drop i++B.drop j)=A.take i++(B.take j++A.drop i)++B.drop j:=by simp
  rw [e]
  have e2:A++B=A.take i++(A.drop i++B.take j)++B.drop j:=by
   rw [show A.take i++(A.drop i++B.take j)++B.drop j=(A.take i++A.drop i)++(B.take j++B.drop j) by simp only [List.append_assoc],List.take_append_drop,List.take_append_drop]
  rw [e2]
  exact ((List.Perm.refl _).append (List.perm_append_comm)).append (List.Perm.refl _)
theorem one_in {B:List Nat} {x i:Nat} (tr:∀ a b c,R a b→R b c→R a c) (hB:B.Pairwise R) (h1:i=0∨∃ y,B[i - 1]?=some y∧R y x) (h2:B.length≤i∨∃ y,B[i]?=some y∧R x y) :
  (B.take i++[x]++B.drop i).Pairwise R∧(B.take i++[x]++B.drop i).Perm (x::B):=by
 have hs:[x].Pairwise R:=List.pairwise_singleton ..
 have c1:∀ u∈B.take i,∀ v∈[x],R u v:=by
  have:=cut_le tr hB hs (i:=i) (j:=0) (h1.imp id fun ⟨y,hy,hr⟩=>.inr ⟨y,x,hy,rfl,hr⟩)
  simpa using this
 have c2:∀ u∈[x],∀ v∈B.drop i,R u v:=by
  have:=cut_le tr hs hB (i:=1) (j:=i) (.inr (h2.imp id fun ⟨y,hy,hr⟩=>⟨x,y,rfl,hy,hr⟩))
  simpa using this
 have hBB:=hB
 rw [←List.take_append_drop i B,List.pairwise_append] at hBB
 refine ⟨List.pairwise_append.2 ⟨List.pairwise_append.2 ⟨hBB.1,hs,c1⟩,hBB.2.1,fun u hu v hv=>?_⟩,?_⟩
 ·rcases List.mem_append.1 hu with hu|hu
  ·exact hBB.2.2 u hu v hv
  ·exact c2 u hu v hv
 ·have e:x::B=[x]++B.take i++B.drop i:=by simp
  rw [e]
  exact (List.perm_append_comm).append (List.Perm.refl _)
def swapL (l:List Nat) (a b:Nat):Nat→List Nat
 | 0=>l
 | n+1=>let m:=swapL l a b n;(m.set (a+n) (m.getD (b+n) 0)).set (b+n) (m.getD (a+n) 0)
theorem swapL_len (l:List Nat) (a b:Nat):∀ n,(swapL l a b n).length=l.length
 | 0=>rfl
 | n+1=>by simp [swapL,swapL_len l a b n]
theorem swapL_get (l:List Nat) (a b:Nat):∀ (n:Nat),(a+n≤b)→b+n≤l.length→∀ k,(swapL l a b n)[k]?=if a≤k∧k<a+n then l[b+(k - a)]? else if b≤k∧k<b+n then l[a+(k - b)]? else l[k]?
 | 0,_,_,k=>by
  rw [if_neg (by omega),if_neg (by omega)];rfl
 | n+1,h1,h2,k=>by
  have ih:=swapL_get l a b n (by omega) (by omega)
  have ea:(swapL l a b n)[a+n]?=l[a+n]?:=by rw [ih,if_neg (by omega),if_neg (by omega)]
  have eb:(swapL l a b n)[b+n]?=l[b+n]?:=by rw [ih,if_neg (by omega),if_neg (by omega)]
  have ga:(swapL l a b n).getD (a+n) 0=l.getD (a+n) 0:=by simp only [List.getD_eq_getElem?_getD,ea]
  have gb:(swapL l a b n).getD (b+n) 0=l.getD (b+n) 0:=by simp only [List.getD_eq_getElem?_getD,eb]
  have hl:=swapL_len l a b n
  simp only [swapL,ga,gb]
  by_cases hkb:k=b+n
  ·subst hkb
   rw [List.getElem?_set_self (by rw [List.length_set,hl];omega),if_neg (by omega),if_pos (by omega)]
   rw [show a+(b+n - b)=a+n by omega,List.getD_eq_getElem?_getD,List.getElem?_eq_getElem (by omega)]
   rfl
  ·rw [List.getElem?_set_ne (by omega)]
   by_cases hka:k=a+n
   ·subst hka
    rw [List.getElem?_set_self (by rw [hl];omega),if_pos (by omega)]
    rw [show b+(a+n - a)=b+n by omega,List.getD_eq_getElem?_getD,List.getElem?_eq_getElem (by omega)]
    rfl
   ·rw [List.getElem?_set_ne (by omega),ih]
    by_cases q1:a≤k∧k<a+n
    ·rw [if_pos q1,if_pos (by omega)]
    ·rw [if_neg q1]
     by_cases q2:b≤k∧k<b+n
     ·rw [if_pos q2,if_neg (by omega),if_pos (by omega)]
     ·rw [if_neg q2,if_neg (by omega),if_neg (by omega)]
theorem swapL_parts (P X M Y T:List Nat) (h:X.length=Y.length):swapL (P++X++M++Y++T) P.length (P.length+X.length+M.length) X.length=P++Y++M++X++T:=by
 apply List.ext_getElem?
 intro k
 rw [swapL_get _ _ _ _ (by omega) (by simp;omega)]
 simp only [List.append_assoc]
 by_cases k0:k<P.length
 ·rw [if_neg (by omega),if_neg (by omega),List.getElem?_append_left k0,List.getElem?_append_left k0]
 ·obtain ⟨q,rfl⟩:∃ q,k=P.length+q:=⟨k - P.length,by omega⟩
  simp only [List.getElem?_append,List.length_append]
  by_cases k1:q<X.length
  ·rw [if_pos (by omega)]
   repeat rw [if_neg (by omega)]
   rw [if_pos (by omega)]
   repeat (first|rw [if_neg (by omega)]|rw [if_pos (by omega)])
   congr 1;omega
  ·rw [if_neg (by omega)]
   by_cases k2:P.length+X.length+M.length≤P.length+q∧P.length+q<P.length+X.length+M.length+X.length
   ·rw [if_pos k2]
    repeat (first|rw [if_neg (by omega)]|rw [if_pos (by omega)])
    congr 1;omega
   ·rw [if_neg k2]
    repeat (first|rw [if_neg (by omega)]|rw [if_pos (by omega)])
    by_cases k3:q<X.length+M.length
    ·repeat (first|rw [if_neg (by omega)]|rw [if_pos (by omega)])
     congr 1;omega
    ·repeat (first|rw [if_neg (by omega)]|rw [if_pos (by omega)])
     congr 1;omega
theorem rot_gt (P X1 X2 Y T:List Nat) (h:X1.length=Y.length):swapL (P++(X1++X2)++Y++T) P.length (P.length+(X1++X2).length) Y.length=(P++Y)++X2++X1++T:=by
 have:=swapL_parts P X1 X2 Y T h
 simp only [List.append_assoc,List.length_append,h,Nat.add_assoc] at this ⊢
 exact this
theorem rot_lt (P X Y1 Y2 T:List Nat) (h:X.length=Y2.length):swapL (P++X++(Y1++Y2)++T) P.length (P.length+X.length+Y1.length) X.length=P++Y2++Y1++(X++T):=by
 have:=swapL_parts P X Y1 Y2 T h
 simp only [List.append_assoc] at this ⊢
 exact this
theorem rot_eq (P X Y T:List Nat) (h:X.length=Y.length):swapL (P++X++Y++T) P.length (P.length+X.length) X.length=P++Y++X++T:=by
 have:=swapL_parts P X [] Y T h
 simpa using this
def Blk (R:Nat→Nat→Prop) (bs:Nat) (L M:List Nat):Prop:=L.length=M.length∧∀ k,((L.drop (k*bs)).take bs).Perm ((M.drop (k*bs)).take bs)∧((L.drop (k*bs)).take bs).Pairwise R
theorem Blk.all {bs:Nat} {L M:List Nat} (h:Blk R bs L M) (hb:M.length≤bs):L.Perm M∧L.Pairwise R:=by
 have h0:=h.2 0
 rw [Nat.zero_mul,List.drop_zero,List.drop_zero,List.take_of_length_le (by rw [h.1];exact hb),List.take_of_length_le hb] at h0
 exact h0
theorem seg_left (P X Y:List Nat) (s n:Nat) (h:s+n≤P.length):((P++X).drop s).take n=((P++Y).drop s).take n:=by
 apply List.ext_getElem?
 intro k
 rcases Nat.lt_or_ge k n with hk|hk
 ·rw [List.getElem?_take_of_lt hk,List.getElem?_take_of_lt hk,List.getElem?_drop,List.getElem?_drop,List.getElem?_append_left (by omega),List.getElem?_append_left (by omega)]
 ·rw [List.getElem?_eq_none (by rw [List.length_take];omega),List.getElem?_eq_none (by rw [List.length_take];omega)]
theorem seg_right (X Y T:List Nat) (hl:X.length=Y.length) (s n:Nat) (h:X.length≤s):((X++T).drop s).take n=((Y++T).drop s).take n:=by
 rw [List.drop_append,List.drop_append,show X.drop s=[] from List.drop_eq_nil_of_le h,show Y.drop s=[] from List.drop_eq_nil_of_le (by omega),hl]
structure Mid (R:Nat→Nat→Prop) (bs c:Nat) (L M:List Nat):Prop where
 len:L.length=M.length
 dbl:∀ k,k<c→((L.drop (k*(2*bs))).take (2*bs)).Perm ((M.drop (k*(2*bs))).take (2*bs))∧((L.drop (k*(2*bs))).take (2*bs)).Pairwise R
 sgl:∀ k,2*c≤k→((L.drop (k*bs)).take bs).Perm ((M.drop (k*bs)).take bs)∧((L.drop (k*bs)).take bs).Pairwise R
theorem Mid.start {bs:Nat} {L M:List Nat} (h:Blk R bs L M):Mid R bs 0 L M:=⟨h.1,fun k hk=>absurd hk (Nat.not_lt_zero _),fun k _=>h.2 k⟩
theorem Mid.done {bs c:Nat} {L M:List Nat} (h:Mid R bs c L M) (hc:M.length≤c*(2*bs)):Blk R (2*bs) L M:=by
 refine ⟨h.len,fun k=>?_⟩
 rcases Nat.lt_or_ge k c with hk|hk
 ·exact h.dbl k hk
 ·have hb:c*(2*bs)≤k*(2*bs):=Nat.mul_le_mul_right _ hk
  rw [List.drop_eq_nil_of_le (by rw [h.len];omega),List.drop_eq_nil_of_le (by omega)]
  simp
theorem Mid.step {bs c:Nat} {P A B C T M:List Nat} (h:Mid R bs c (P++A++B++T) M) (hP:P.length=c*(2*bs)) (hA:A.length=bs) (hB:B.length≤bs) (hT:B.length=bs∨T=[]) (p:C.Perm (A++B)) (s:C.Pairwise R):Mid R bs (c+1) (P++C++T) M:=by
 have hcl:C.length=A.length+B.length:=by rw [p.length_eq,List.length_append]
 have e2:(2*c)*bs=c*(2*bs):=by rw [Nat.mul_comm 2 c,Nat.mul_assoc]
 have e3:(2*c+1)*bs=c*(2*bs)+bs:=by rw [Nat.succ_mul,e2]
 have ml:=h.len
 simp only [List.length_append] at ml
 have hs1:=(h.sgl (2*c) (Nat.le_refl _)).1
 have hs2:=(h.sgl (2*c+1) (by omega)).1
 have a1:((P++A++B++T).drop ((2*c)*bs)).take bs=A:=by
  rw [e2,←hP,List.append_assoc,List.append_assoc,List.drop_left,←hA,List.take_left]
 have a2:((P++A++B++T).drop ((2*c+1)*bs)).take bs=B:=by
  rw [e3,←hP,←hA,←List.length_append,List.append_assoc,List.drop_left]
  rcases hT with hT|rfl
  ·rw [hA,←hT,List.take_left]
  ·rw [List.append_nil,List.take_of_length_le (by omega)]
 rw [a1] at hs1
 rw [a2] at hs2
 refine ⟨by simp only [List.length_append];omega,fun k hk=>?_,fun k hk=>?_⟩
 ·rcases Nat.lt_or_ge k c with hkc|hkc
  ·have hb:(k+1)*(2*bs)≤c*(2*bs):=Nat.mul_le_mul_right _ hkc
   rw [Nat.succ_mul] at hb
   have:=h.dbl k hkc
   rw [List.append_assoc,List.append_assoc,seg_left P (A++(B++T)) (C++T) _ _ (by omega)] at this
   rw [List.append_assoc]
   exact this
  ·have hkc:k=c:=by omega
   subst hkc
   have e:((P++C++T).drop (k*(2*bs))).take (2*bs)=C:=by
    rw [←hP,List.append_assoc,List.drop_left]
    rcases hT with hT|rfl
    ·rw [show 2*bs=C.length by omega,List.take_left]
    ·rw [List.append_nil,List.take_of_length_le (by omega)]
   rw [e]
   refine ⟨p.trans ((hs1.append hs2).trans ?_),s⟩
   have:(M.drop (k*(2*bs))).take (2*bs)=(M.drop (2*k*bs)).take bs++(M.drop ((2*k+1)*bs)).take bs:=by
    rw [e2,e3,←List.drop_drop,show 2*bs=bs+bs by omega,List.take_add]
   rw [this]
 ·have hb:(2*(c+1))*bs≤k*bs:=Nat.mul_le_mul_right _ hk
  have e4:(2*(c+1))*bs=c*(2*bs)+2*bs:=by rw [Nat.mul_comm 2 (c+1),Nat.mul_assoc,Nat.succ_mul]
  have:=h.sgl k (by omega)
  rwa [show P++A++B++T=(P++A++B)++T from rfl,seg_right (P++A++B) (P++C) T (by simp only [List.length_append];omega) _ _ (by simp only [List.length_append];omega)] at this
theorem Mid.parts {bs c:Nat} {L M:List Nat} (h:Mid R bs c L M) (hc:c*(2*bs)+bs≤M.length):∃ P A B T,L=P++A++B++T∧P.length=c*(2*bs)∧A.length=bs∧B.length≤bs∧(B.length=bs∨T=[])∧A.Pairwise R∧B.Pairwise R ∧
  A.Perm ((M.drop (2*c*bs)).take bs)∧B.Perm ((M.drop ((2*c+1)*bs)).take bs):=by
 have e2:(2*c)*bs=c*(2*bs):=by rw [Nat.mul_comm 2 c,Nat.mul_assoc]
 have e3:(2*c+1)*bs=c*(2*bs)+bs:=by rw [Nat.succ_mul,e2]
 have ml:=h.len
 have s1:=h.sgl (2*c) (Nat.le_refl _)
 have s2:=h.sgl (2*c+1) (by omega)
 refine ⟨L.take (2*c*bs),(L.drop (2*c*bs)).take bs,(L.drop ((2*c+1)*bs)).take bs,(L.drop ((2*c+1)*bs)).drop bs,?_,?_,?_,?_,?_,s1.2,s2.2,s1.1,s2.1⟩
 ·have q1:L.drop ((2*c+1)*bs)=(L.drop (2*c*bs)).drop bs:=by rw [List.drop_drop,e3,e2]
  rw [List.append_assoc,List.take_append_drop,q1,List.append_assoc,List.take_append_drop,List.take_append_drop]
 ·rw [List.length_take];omega
 ·rw [List.length_take,List.length_drop];omega
 ·rw [List.length_take];omega
 ·rw [List.length_take,List.length_drop]
  rcases Nat.lt_or_ge (L.length - (2*c+1)*bs) bs with h1|h1
  ·right;rw [List.drop_drop];exact List.drop_eq_nil_of_le (by omega)
  ·left;omega
end Mr
end Go.Proofs.Ytnkmhbiklffjlaa
namespace Go.Proofs.Ytnkmhbiklffjlaa
namespace Mr
variable {R:Nat→Nat→Prop}
structure Pre (R:Nat→Nat→Prop) (bs c:Nat) (L M:List Nat):Prop where
 len:L.length=M.length
 blk:∀ k,k<c→((L.drop (k*bs)).take bs).Perm ((M.drop (k*bs)).take bs)∧((L.drop (k*bs)).take bs).Pairwise R
 rest:L.drop (c*bs)=M.drop (c*bs)
theorem Pre.start (bs:Nat) (M:List Nat):Pre R bs 0 M M:=⟨rfl,fun k hk=>absurd hk (Nat.not_lt_zero _),rfl⟩
theorem Pre.done {bs c:Nat} {L M:List Nat} (h:Pre R bs c L M) (hc:M.length≤c*bs):Blk R bs L M:=by
 refine ⟨h.len,fun k=>?_⟩
 rcases Nat.lt_or_ge k c with hk|hk
 ·exact h.blk k hk
 ·have hb:c*bs≤k*bs:=Nat.mul_le_mul_right _ hk
  rw [List.drop_eq_nil_of_le (by rw [h.len];omega),List.drop_eq_nil_of_le (by omega)]
  simp
theorem Pre.step {bs c:Nat} {P X X' T M:List Nat} (h:Pre R bs c (P++X++T) M) (hP:P.length=c*bs) (hX:X.length=bs∨(T=[]∧X.length≤bs)) (p:X'.Perm X) (s:X'.Pairwise R):Pre R bs (c+1) (P++X'++T) M:=by
 have hl:X'.length=X.length:=p.length_eq
 have hr:=h.rest
 rw [←hP,List.append_assoc,List.drop_left,hP] at hr
 have ml:=h.len
 simp only [List.length_append] at ml
 have e1:(c+1)*bs=c*bs+bs:=Nat.succ_mul _ _
 refine ⟨by simp only [List.length_append];omega,fun k hk=>?_,?_⟩
 ·rcases Nat.lt_or_ge k c with hkc|hkc
  ·have hb:(k+1)*bs≤c*bs:=Nat.mul_le_mul_right _ hkc
   rw [Nat.succ_mul] at hb
   have:=h.blk k hkc
   rw [List.append_assoc,seg_left P (X++T) (X'++T) _ _ (by omega)] at this
   rw [List.append_assoc]
   exact this
  ·have hkc:k=c:=by omega
   subst hkc
   have e:((P++X'++T).drop (k*bs)).take bs=X':=by
    rw [←hP,List.append_assoc,List.drop_left]
    rcases hX with hX|⟨rfl,hX⟩
    ·rw [←hX,←hl,List.take_left]
    ·rw [List.append_nil,List.take_of_length_le (by omega)]
   have e2:(M.drop (k*bs)).take bs=X:=by
    rw [←hr]
    rcases hX with hX|⟨rfl,hX⟩
    ·rw [←hX,List.take_left]
    ·rw [List.append_nil,List.take_of_length_le (by omega)]
   rw [e,e2]
   exact ⟨p,s⟩
 ·rw [e1,←List.drop_drop,←List.drop_drop,←hr,←hP,List.append_assoc,List.drop_left]
  rcases hX with hX|⟨rfl,hX⟩
  ·rw [←hX,List.drop_left,←hl,List.drop_left]
  ·rw [List.append_nil,List.append_nil,List.drop_eq_nil_of_le (by omega),List.drop_eq_nil_of_le (by omega)]
theorem Pre.parts {bs c:Nat} {L M:List Nat} (h:Pre R bs c L M) (hc:c*bs≤M.length):∃ P X T,L=P++X++T∧P.length=c*bs∧X=(M.drop (c*bs)).take bs∧T=M.drop ((c+1)*bs):=by
 refine ⟨L.take (c*bs),(M.drop (c*bs)).take bs,M.drop ((c+1)*bs),?_,?_,rfl,rfl⟩
 ·rw [Nat.succ_mul,←List.drop_drop,List.append_assoc,List.take_append_drop,←h.rest,List.take_append_drop]
 ·rw [List.length_take,h.len];omega
theorem Mid.alone {bs c:Nat} {L M:List Nat} (h:Mid R bs c L M) (hc:M.length≤c*(2*bs)+bs):Blk R (2*bs) L M:=by
 refine ⟨h.len,fun k=>?_⟩
 rcases Nat.lt_or_ge k c with hk|hk
 ·exact h.dbl k hk
 ·rcases Nat.lt_or_ge c k with hk2|hk2
  ·have hb:(c+1)*(2*bs)≤k*(2*bs):=Nat.mul_le_mul_right _ hk2
   rw [Nat.succ_mul] at hb
   rw [List.drop_eq_nil_of_le (by rw [h.len];omega),List.drop_eq_nil_of_le (by omega)]
   simp
  ·have hkc:k=c:=by omega
   subst hkc
   have e2:(2*k)*bs=k*(2*bs):=by rw [Nat.mul_comm 2 k,Nat.mul_assoc]
   have hs:=h.sgl (2*k) (Nat.le_refl _)
   rw [e2] at hs
   have hl:=h.len
   rw [List.take_of_length_le (by rw [List.length_drop];omega),List.take_of_length_le (by rw [List.length_drop];omega)] at hs
   rw [List.take_of_length_le (by rw [List.length_drop];omega),List.take_of_length_le (by rw [List.length_drop];omega)]
   exact hs
theorem blocks_lt {M A B:List Nat} {bs c:Nat} (hM:M.Pairwise (·<·)) (hA:A.Perm ((M.drop (2*c*bs)).take bs)) (hB:B.Perm ((M.drop ((2*c+1)*bs)).take bs)):∀ x∈A,∀ y∈B,x<y:=by
 intro x hx y hy
 obtain ⟨i,hi,hxi⟩:=mem_take' (hA.mem_iff.1 hx)
 have hy2:=List.mem_of_mem_take (hB.mem_iff.1 hy)
 obtain ⟨j,hj,hyj⟩:=mem_drop' hy2
 rw [List.getElem?_drop] at hxi
 have e3:(2*c+1)*bs=2*c*bs+bs:=Nat.succ_mul _ _
 exact pw_get hM hxi hyj (by omega)
end Mr
end Go.Proofs.Ytnkmhbiklffjlaa
