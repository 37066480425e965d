import Init
set_option linter.unusedVariables false
set_option linter.unusedSimpArgs false
namespace Go.Proofs.Ytnkmhbiklffjlaa.Ap
theorem dig_downB (B u d a b q r:Nat) (h:q*a+r=u) (hX:u*B+d<B*(a*B+b)) (hc:B≤q∨B*r+d<q*b) :
  u*B+d<q*(a*B+b):=by
 rcases hc with hc|hc
 ·exact Nat.lt_of_lt_of_le hX (Nat.mul_le_mul_right (a*B+b) hc)
 ·rw [Nat.mul_add,←Nat.mul_assoc,←h,Nat.add_mul,Nat.mul_comm r B];omega
theorem dig_down (u d a b q r:Nat) (h:q*a+r=u) (hX:u*4294967296+d<4294967296*(a*4294967296+b)) (hc:4294967296≤q∨4294967296*r+d<q*b) :
  u*4294967296+d<q*(a*4294967296+b):=dig_downB 4294967296 u d a b q r h hX hc
theorem dig_exit (u d a b q r:Nat) (h:q*a+r=u) (hb:b<4294967296) (hc:(q<4294967296∧q*b≤4294967296*r+d)∨(q≤4294967296∧4294967296≤r)) :
  q*(a*4294967296+b)≤u*4294967296+d:=by
 rw [Nat.mul_add,←Nat.mul_assoc,←h,Nat.add_mul]
 rcases hc with ⟨_,hc⟩|⟨h1,h2⟩
 ·omega
 ·have h3:q*b≤4294967296*b:=Nat.mul_le_mul_right _ h1
  omega
theorem dig_first (u a b:Nat) (ha:2147483648≤a) (hb:b<4294967296) (hu:u<a*4294967296+b):u / a≤4294967297:=by
 have:u / a<4294967298:=(Nat.div_lt_iff_lt_mul (by omega)).2 (by omega)
 omega
theorem dig_twoB (B u d1 d0 y q1 r1 q0 r0:Nat) (h1:q1*y+r1=u*B+d1) (h2:q0*y+r0=r1*B+d0) (hr:r0<y) :
  q1*B+q0=(u*(B*B)+d1*B+d0) / y∧r0=(u*(B*B)+d1*B+d0)%y:=by
 have e:u*(B*B)+d1*B+d0=r0+y*(q1*B+q0):=by
  have e3:(q1*y+r1)*B=(u*B+d1)*B:=by rw [h1]
  have e2:y*(q1*B+q0)=q1*y*B+q0*y:=by rw [Nat.mul_comm,Nat.add_mul,Nat.mul_right_comm]
  rw [Nat.add_mul,Nat.add_mul,Nat.mul_assoc u] at e3
  omega
 rw [e]
 constructor
 ·rw [Nat.add_mul_div_left _ _ (by omega),Nat.div_eq_of_lt hr,Nat.zero_add]
 ·rw [Nat.add_mul_mod_self_left,Nat.mod_eq_of_lt hr]
theorem dig_two (u d1 d0 y q1 r1 q0 r0:Nat) (h1:q1*y+r1=u*4294967296+d1) (h2:q0*y+r0=r1*4294967296+d0) (hr:r0<y) :
  q1*4294967296+q0=(u*18446744073709551616+d1*4294967296+d0) / y∧r0=(u*18446744073709551616+d1*4294967296+d0)%y:=dig_twoB 4294967296 u d1 d0 y q1 r1 q0 r0 h1 h2 hr
theorem norm_parts (hi lo y P Q:Nat) (hPQ:P*Q=18446744073709551616) (hhi:hi<y) (hlo:lo<18446744073709551616) :
  (hi*P+lo / Q)*18446744073709551616+lo*P%18446744073709551616=(hi*18446744073709551616+lo)*P∧hi*P+lo / Q<y*P∧lo / Q<P:=by
 have hP:0<P:=Nat.pos_of_ne_zero (fun h=>by rw [h,Nat.zero_mul] at hPQ;omega)
 have hQ:0<Q:=Nat.pos_of_ne_zero (fun h=>by rw [h,Nat.mul_zero] at hPQ;omega)
 have e1:lo*P / 18446744073709551616=lo / Q:=by rw [←hPQ,Nat.mul_comm lo P,Nat.mul_div_mul_left _ _ hP]
 have e2:=Nat.div_add_mod (lo*P) 18446744073709551616
 rw [e1] at e2
 have e3:(hi*P+lo / Q)*18446744073709551616+lo*P%18446744073709551616=(hi*18446744073709551616+lo)*P:=by
  rw [Nat.add_mul,Nat.add_mul,Nat.mul_right_comm]
  omega
 have hlt:lo / Q<P:=by rw [Nat.div_lt_iff_lt_mul hQ];omega
 refine ⟨e3,?_,hlt⟩
 have:(hi+1)*P≤y*P:=Nat.mul_le_mul_right _ hhi
 rw [Nat.add_mul] at this;omega
theorem div_two (hi lo y P Q q1 r1 q0 r0:Nat) (hPQ:P*Q=18446744073709551616) (hhi:hi<y) (hlo:lo<18446744073709551616)
  (h1:q1*(y*P)+r1=(hi*P+lo / Q)*4294967296+lo*P%18446744073709551616 / 4294967296) (h2:q0*(y*P)+r0=r1*4294967296+lo*P%18446744073709551616%4294967296) (hr:r0<y*P) :
  q1*4294967296+q0=(hi*18446744073709551616+lo) / y∧r0 / P=(hi*18446744073709551616+lo)%y:=by
 have hP:0<P:=Nat.pos_of_ne_zero (fun h=>by rw [h,Nat.zero_mul] at hPQ;omega)
 obtain ⟨e1,_,_⟩:=norm_parts hi lo y P Q hPQ hhi hlo
 obtain ⟨k1,k2⟩:=dig_two _ _ _ _ _ _ _ _ h1 h2 hr
 have e4:(hi*P+lo / Q)*18446744073709551616+lo*P%18446744073709551616 / 4294967296*4294967296+lo*P%18446744073709551616%4294967296=(hi*18446744073709551616+lo)*P:=by
  rw [←e1,Nat.add_assoc,Nat.mul_comm (lo*P%18446744073709551616 / 4294967296),Nat.div_add_mod]
 rw [e4] at k1 k2
 rw [k1,k2,Nat.mul_div_mul_right _ _ hP,Nat.mul_mod_mul_right]
 exact ⟨rfl,Nat.mul_div_cancel _ hP⟩
def sumL:List Nat→Nat
 | []=>0
 | x::l=>x+sumL l
theorem sumL_app (a b:List Nat):sumL (a++b)=sumL a+sumL b:=by
 induction a with
 | nil=>simp [sumL]
 | cons x a ih=>simp [sumL,ih];omega
theorem sumL_perm {a b:List Nat} (h:a.Perm b):sumL a=sumL b:=by
 induction h with
 | nil=>rfl
 | cons x _ ih=>simp [sumL,ih]
 | swap x y l=>simp [sumL];omega
 | trans _ _ h1 h2=>exact h1.trans h2
theorem sumL_const {l:List Nat} {c:Nat} (h:∀ x∈l,x=c):sumL l=l.length*c:=by
 induction l with
 | nil=>simp [sumL]
 | cons x l ih =>
  simp only [sumL,List.length_cons]
  rw [ih (fun y hy=>h y (by simp [hy])),h x (by simp),Nat.add_mul];omega
theorem sumL_le {l:List Nat} {c:Nat} (h:∀ x∈l,x≤c):sumL l≤l.length*c:=by
 induction l with
 | nil=>simp [sumL]
 | cons x l ih =>
  simp only [sumL,List.length_cons]
  have h1:=ih (fun y hy=>h y (by simp [hy]))
  have h2:=h x (by simp)
  rw [Nat.add_mul];omega
theorem sumL_mem {l:List Nat} {x:Nat} (h:x∈l):x≤sumL l:=by
 induction l with
 | nil=>simp at h
 | cons y l ih =>
  simp only [sumL]
  rcases List.mem_cons.1 h with rfl|h
  ·omega
  ·have:=ih h;omega
theorem sumL_map_add {α:Type} (l:List α) (f g:α→Nat):sumL (l.map fun i=>f i+g i)=sumL (l.map f)+sumL (l.map g):=by
 induction l with
 | nil=>rfl
 | cons x l ih=>simp only [List.map_cons,sumL,ih];omega
theorem sumL_map_mul {α:Type} (l:List α) (f:α→Nat) (c:Nat):sumL (l.map fun i=>c*f i)=c*sumL (l.map f):=by
 induction l with
 | nil=>simp [sumL]
 | cons x l ih=>simp only [List.map_cons,sumL,ih,Nat.mul_add]
theorem getD_range (l:List Nat):l=(List.range l.length).map fun i=>l.getD i 0:=by
 apply List.ext_getElem
 ·simp
 ·intro i h1 h2;simp [List.getD,h1]
theorem map_congr {α β:Type} {l:List α} {f g:α→β} (h:∀ x∈l,f x=g x):l.map f=l.map g:=by
 apply List.map_congr_left;exact h
def R (r:Nat→Nat) (i j:Nat):Prop:=r j<r i∨(r i=r j∧i<j)
theorem R.trans {r:Nat→Nat} {i j k:Nat} (h:R r i j) (h2:R r j k):R r i k:=by unfold R at *;omega
theorem R.asymm {r:Nat→Nat} {i j:Nat} (h:R r i j) (h2:R r j i):False:=by unfold R at *;omega
def quo (t:Nat) (ws:List Nat) (i:Nat):Nat:=t*ws.getD i 0 / sumL ws
def rest (t:Nat) (ws:List Nat) (i:Nat):Nat:=t*ws.getD i 0%sumL ws
def miss (t:Nat) (ws:List Nat):Nat:=t - sumL ((List.range ws.length).map (quo t ws))
def Parts (t:Nat) (ws:List Nat) (p:List Nat):Prop :=
 ∃ o:List Nat,o.Perm (List.range ws.length)∧o.Pairwise (R (rest t ws))∧p.length=ws.length∧∀ i,i<ws.length→p.getD i 0=quo t ws i+if i∈o.take (miss t ws) then 1 else 0
theorem sorted_unique {r:Nat→Nat}:∀ {a b:List Nat},a.Perm b→a.Pairwise (R r)→b.Pairwise (R r)→a=b:=by
 intro a
 induction a with
 | nil=>intro b h _ _;exact (List.nil_perm.1 h).symm
 | cons x a ih =>
  intro b h h1 h2
  cases b with
  | nil=>exact absurd h (by simp)
  | cons y b =>
   have hx:x∈y::b:=h.subset (by simp)
   have hy:y∈x::a:=h.symm.subset (by simp)
   have e:x=y:=by
    rcases List.mem_cons.1 hx with e|hx
    ·exact e
    ·rcases List.mem_cons.1 hy with e|hy
     ·exact e.symm
     ·exact (R.asymm ((List.pairwise_cons.1 h1).1 y hy) ((List.pairwise_cons.1 h2).1 x hx)).elim
   subst e
   rw [ih (List.Perm.cons_inv h) (List.pairwise_cons.1 h1).2 (List.pairwise_cons.1 h2).2]
theorem total_eq (t:Nat) (ws:List Nat):sumL ((List.range ws.length).map (quo t ws))*sumL ws+sumL ((List.range ws.length).map (rest t ws))=t*sumL ws:=by
 have h1:sumL ((List.range ws.length).map fun i=>sumL ws*quo t ws i+rest t ws i)=sumL ((List.range ws.length).map fun i=>t*ws.getD i 0):=by
  congr 1;apply map_congr;intro i _;unfold quo rest;exact Nat.div_add_mod _ _
 rw [sumL_map_add,sumL_map_mul,sumL_map_mul,←getD_range,Nat.mul_comm] at h1
 exact h1
theorem miss_eq (t:Nat) (ws:List Nat) (hs:0<sumL ws):sumL ((List.range ws.length).map (quo t ws))+miss t ws=t∧miss t ws*sumL ws=sumL ((List.range ws.length).map (rest t ws)):=by
 have h:=total_eq t ws
 have h1:sumL ((List.range ws.length).map (quo t ws))≤t:=Nat.le_of_mul_le_mul_right (by omega:_*sumL ws≤t*sumL ws) hs
 have h2:sumL ((List.range ws.length).map (quo t ws))+miss t ws=t:=by unfold miss;omega
 refine ⟨h2,?_⟩
 rw [←h2,Nat.add_mul] at h
 rw [h2] at h
 omega
theorem rest_lt (t:Nat) (ws:List Nat) (hs:0<sumL ws) (i:Nat):rest t ws i<sumL ws:=Nat.mod_lt _ hs
theorem miss_le (t:Nat) (ws:List Nat) (hs:0<sumL ws):miss t ws≤ws.length:=by
 have h:=(miss_eq t ws hs).2
 have h2:sumL ((List.range ws.length).map (rest t ws))≤((List.range ws.length).map (rest t ws)).length*sumL ws:=sumL_le (by
  intro x hx;obtain ⟨i,_,rfl⟩:=List.mem_map.1 hx;exact Nat.le_of_lt (rest_lt t ws hs i))
 rw [List.length_map,List.length_range,←h] at h2
 exact Nat.le_of_mul_le_mul_right h2 hs
theorem count_take {o:List Nat} (hn:o.Nodup) (m:Nat) (hm:m≤o.length):sumL (o.map fun i=>if i∈o.take m then 1 else 0)=m:=by
 have e:(o.map fun i=>if i∈o.take m then 1 else 0)=(o.take m).map (fun _=>1)++(o.drop m).map (fun _=>0):=by
  conv=>lhs;rw [show (o.map fun i=>if i∈o.take m then 1 else 0)=(o.take m++o.drop m).map (fun i=>if i∈o.take m then 1 else 0) by rw [List.take_append_drop]]
  rw [List.map_append]
  congr 1
  ·apply map_congr;intro x hx;rw [if_pos hx]
  ·apply map_congr;intro x hx
   rw [←List.take_append_drop m o] at hn
   rw [if_neg (fun h=>(List.nodup_append.1 hn).2.2 x h x hx rfl)]
 rw [e,sumL_app,sumL_const (c:=1) (by intro x hx;obtain ⟨_,_,rfl⟩:=List.mem_map.1 hx;rfl),sumL_const (c:=0) (by intro x hx;obtain ⟨_,_,rfl⟩:=List.mem_map.1 hx;rfl)]
 simp;omega
theorem parts_sum {t:Nat} {ws p:List Nat} (hs:0<sumL ws) (h:Parts t ws p):sumL p=t:=by
 obtain ⟨o,hp,ho,hl,hv⟩:=h
 rw [getD_range p,hl,map_congr (fun i hi=>hv i (by simpa using hi)),sumL_map_add]
 have hn:o.Nodup:=hp.nodup_iff.2 List.nodup_range
 have e:sumL ((List.range ws.length).map fun i=>if i∈o.take (miss t ws) then 1 else 0)=miss t ws:=by
  rw [sumL_perm (hp.symm.map _)]
  exact count_take hn _ (by rw [hp.length_eq,List.length_range];exact miss_le t ws hs)
 rw [e]
 exact (miss_eq t ws hs).1
theorem parts_unique {t:Nat} {ws p q:List Nat} (h:Parts t ws p) (h2:Parts t ws q):p=q:=by
 obtain ⟨o,hp,ho,hl,hv⟩:=h
 obtain ⟨o2,hp2,ho2,hl2,hv2⟩:=h2
 have e:=sorted_unique (hp.trans hp2.symm) ho ho2
 subst e
 rw [getD_range p,getD_range q,hl,hl2]
 apply map_congr
 intro i hi
 rw [hv i (by simpa using hi),hv2 i (by simpa using hi)]
def rnd (t s c:Nat):Nat:=if s - t*c%s<t*c%s∨(t*c%s=s - t*c%s∧t*c / s%2=1) then t*c / s+1 else t*c / s
def spreadL (t s:Nat):Nat→Nat→List Nat→List Int
 | _,_,[]=>[]
 | b,c,w::ws=>(((rnd t s (c+w):Nat):Int) - (b:Int))::spreadL t s (rnd t s (c+w)) (c+w) ws
theorem rnd_scale (t s c k:Nat) (hk:0<k):rnd t (k*s) (k*c)=rnd t s c:=by
 unfold rnd
 rw [Nat.mul_left_comm,Nat.mul_mod_mul_left,Nat.mul_div_mul_left _ _ hk,←Nat.mul_sub]
 have e1:(k*(s - t*c%s)<k*(t*c%s))↔(s - t*c%s<t*c%s):=⟨fun h=>Nat.lt_of_mul_lt_mul_left h,fun h=>Nat.mul_lt_mul_of_pos_left h hk⟩
 have e2:(k*(t*c%s)=k*(s - t*c%s))↔(t*c%s=s - t*c%s):=⟨fun h=>Nat.eq_of_mul_eq_mul_left hk h,fun h=>by rw [←h]⟩
 simp only [e1,e2]
theorem spread_len (t s:Nat):∀ (ws:List Nat) (b c:Nat),(spreadL t s b c ws).length=ws.length:=by
 intro ws
 induction ws with
 | nil=>intro b c;rfl
 | cons w ws ih=>intro b c;simp [spreadL,ih]
theorem rnd_le (t s c:Nat):t*c / s≤rnd t s c∧rnd t s c≤t*c / s+1:=by unfold rnd;split<;>omega
theorem getD_mem {l:List Nat} {i:Nat} (h:i<l.length):l.getD i 0∈l:=by simp [List.getD,h]
structure Ins (r:Nat→Nat) (x:Nat) (M A C:List Nat):Prop where
 perm:(A++C).Perm M
 low:∀ y∈M,y<x
 sorted:(A++C).Pairwise (R r)
 after:∀ c∈C,R r x c
theorem ins_start {r:Nat→Nat} {x:Nat} {M A:List Nat} (hp:A.Perm M) (hl:∀ y∈M,y<x) (hs:A.Pairwise (R r)):Ins r x M A []:=⟨by simpa using hp,hl,by simpa using hs,by simp⟩
theorem ins_step {r:Nat→Nat} {x z:Nat} {M A C:List Nat} (h:Ins r x M (A++[z]) C) (hx:r z<r x):Ins r x M A (z::C):=by
 refine ⟨by simpa using h.perm,h.low,by simpa using h.sorted,?_⟩
 intro c hc
 rcases List.mem_cons.1 hc with rfl|hc
 ·exact .inl hx
 ·exact h.after c hc
theorem ins_end {r:Nat→Nat} {x:Nat} {M A C:List Nat} (h:Ins r x M A C) (hx:∀ B z,A=B++[z]→r x≤r z):(A++x::C).Perm (M++[x])∧(A++x::C).Pairwise (R r):=by
 constructor
 ·exact (List.perm_middle.trans ((h.perm.cons x))).trans (List.perm_append_comm (l₁:=[x]))
 ·have hs:=List.pairwise_append.1 h.sorted
  rw [List.pairwise_append]
  refine ⟨hs.1,List.pairwise_cons.2 ⟨h.after,hs.2.1⟩,?_⟩
  intro a ha b hb
  rcases List.mem_cons.1 hb with rfl|hb
  ·rcases List.eq_nil_or_concat A with rfl|⟨B,z,rfl⟩
   ·simp at ha
   ·have hle:=hx B z (by simp)
    have hlt:z<b:=h.low z (h.perm.subset (by simp))
    have hR:R r z b:=by unfold R;omega
    rw [List.concat_eq_append] at ha hs
    rcases List.mem_append.1 ha with ha|ha
    ·exact R.trans ((List.pairwise_append.1 hs.1).2.2 a ha z (by simp)) hR
    ·have:a=z:=by simpa using ha
     subst this;exact hR
  ·exact hs.2.2 a ha b hb
theorem get_mid {α:Type} (X Y:List α) (x:α) (k:Nat) (h:k=X.length):(X++x::Y)[k]?=some x:=by subst h;simp
theorem set_mid {α:Type} (X Y:List α) (x y:α) (k:Nat) (h:k=X.length):(X++x::Y).set k y=X++y::Y:=by subst h;simp
theorem swap_mid {α:Type} (X Y:List α) (z x:α) (k:Nat) (h:k=X.length):((X++z::x::Y).set (k+1) z).set k x=X++x::z::Y:=by
 subst h
 have e:X++z::x::Y=(X++[z])++x::Y:=by simp
 rw [e,set_mid (X++[z]) Y x z _ (by simp)]
 have e2:(X++[z])++z::Y=X++z::(z::Y):=by simp
 rw [e2,set_mid X (z::Y) z x _ rfl]
theorem swap_mid' {α:Type} (X Y:List α) (z x:α) (k:Nat) (h:k=X.length):((X++z::x::Y).set k x).set (k+1) z=X++x::z::Y:=by
 rw [←swap_mid X Y z x k h,List.set_comm _ _ (by omega)]
end Go.Proofs.Ytnkmhbiklffjlaa.Ap
