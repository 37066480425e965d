import Derived.Test.YtooeabibhjbkoaaGreatGnQ
import Derived.Test.YtooeabibhjbkoaaGreatGkA
set_option linter.unusedVariables false
set_option linter.unusedSimpArgs false
namespace Go.Proofs.YtooeabibhjbkoaaGreat
open Go.RowKit Big Reg Al Ap Ga
namespace Ga
def ofN (l:List Nat):List Int:=l.map Int.ofNat
def rqOf (pr:Nat) (x:Tk) (w:Nat):Rq:=⟨x.o.key,(w:Int),(w:Int)*(pr:Int)⟩
def reqL (pr:Nat) (L:List Tk) (wn:List Nat):List Rq:=List.zipWith (rqOf pr) L wn
structure DayOk (L:List Tk) (wn:List Nat):Prop where
 len:L.length=wn.length
 l4:L.length≤4
 keys:(L.map fun x=>x.o.key).Nodup
 ok:∀ x∈L,okO x.o=true∧x.o.void=false
 w:∀ w∈wn,1≤w∧w≤300
theorem reqL_at {pr:Nat} {L:List Tk} {wn:List Nat} {k:Nat} {x:Tk} {w:Nat} (h1:L[k]?=some x) (h2:wn[k]?=some w):(reqL pr L wn)[k]?=some (rqOf pr x w):=by
 rw [reqL,List.getElem?_zipWith,h1,h2]
theorem reqL_len {pr:Nat} {L:List Tk} {wn:List Nat} (h:L.length=wn.length):(reqL pr L wn).length=L.length:=by
 rw [reqL,List.length_zipWith,h,Nat.min_self]
theorem day_check {pr:Nat} {L:List Tk} {wn:List Nat} (h:DayOk L wn) (hp:1≤pr) (hp2:pr≤2000):checkQ (reqL pr L wn)=true:=by
 have hl:=h.l4
 unfold checkQ
 rw [reqL_len h.len,decide_eq_true (by omega),Bool.true_and]
 refine okLQ_yes fun k hk=>?_
 rw [reqL_len h.len] at hk
 have hx:L[k]?=some L[k]:=List.getElem?_eq_getElem hk
 have hw:wn[k]?=some (wn[k]'(by rw [←h.len];exact hk)):=List.getElem?_eq_getElem _
 have hr:=reqL_at (pr:=pr) hx hw
 obtain ⟨w1,w2⟩:=h.w _ (List.mem_of_getElem? hw)
 obtain ⟨o1,_⟩:=h.ok _ (List.mem_of_getElem? hx)
 unfold okAtQ
 rw [hr]
 obtain ⟨w,hww⟩:∃ w,w=wn[k]'(by rw [←h.len];exact hk):=⟨_,rfl⟩
 rw [←hww] at w1 w2
 have hwp:w*pr≤300*2000:=Nat.mul_le_mul w2 hp2
 have h1:okQ (rqOf pr L[k] w)=true:=by
  unfold okQ rqOf
  have hn:nameB L[k].o.key=true:=by
   unfold okO headO at o1
   simp only [Bool.and_eq_true] at o1
   exact o1.1.1.1
  simp only
  have hwi:(w:Int)*(pr:Int)=((w*pr:Nat):Int):=by simp
  rw [hn,inR_of (by omega) (by omega),hwi,inR_of (by omega) (by omega)]
  rfl
 have h2:(((reqL pr L wn).take k).any fun c=>decide (c.key=(rqOf pr L[k] w).key))=false:=by
  rw [List.any_eq_false]
  intro y hy e
  obtain ⟨j,hj⟩:=List.mem_iff_getElem?.1 hy
  have hjk:j<k:=by have:=(List.getElem?_eq_some_iff.1 hj).1;rw [List.length_take] at this;omega
  rw [List.getElem?_take_of_lt hjk] at hj
  have hjl:j<L.length:=by omega
  have hxj:L[j]?=some L[j]:=List.getElem?_eq_getElem hjl
  have hwj:wn[j]?=some (wn[j]'(by rw [←h.len];exact hjl)):=List.getElem?_eq_getElem _
  rw [reqL_at hxj hwj] at hj
  injection hj with hj
  have e2:=of_decide_eq_true e
  rw [←hj] at e2
  have hkn:=h.keys
  have:=(List.pairwise_iff_getElem.1 hkn) j k (by simpa using hjl) (by simpa using hk) hjk
  simp only [List.getElem_map] at this
  exact this e2
 rw [←hww]
 show (okQ (rqOf pr L[k] w)&&!(((reqL pr L wn).take k).any fun c=>decide (c.key=(rqOf pr L[k] w).key)))=true
 rw [h1,h2]
 rfl
theorem ofN_at {l:List Nat} {k:Nat} {x:Nat} (h:l[k]?=some x):(ofN l)[k]?=some (x:Int):=by rw [ofN,List.getElem?_map,h];rfl
theorem ofN_len (l:List Nat):(ofN l).length=l.length:=List.length_map ..
def nextW:List Nat→List Nat→List Nat
 | w::ws,x::xs=>if x<w then (w - x)::nextW ws xs else nextW ws xs
 | _,_=>[]
def leL:List Nat→List Nat→Prop
 | w::ws,x::xs=>x≤w∧leL ws xs
 | [],[]=>True
 | _,_=>False
theorem nextW_sum:∀ {ws xs:List Nat},leL ws xs→sumL (nextW ws xs)+sumL xs=sumL ws
 | [],[],_=>rfl
 | w::ws,x::xs,h=>by
  have:=nextW_sum h.2
  have h1:=h.1
  unfold nextW
  split<;>simp only [sumL] at *<;>omega
 | [],_::_,h=>h.elim
 | _::_,[],h=>h.elim
theorem nextW_bd:∀ {ws xs:List Nat},leL ws xs→(∀ w∈ws,1≤w∧w≤300)→∀ w∈nextW ws xs,1≤w∧w≤300
 | [],[],_,_,w,hw=>by simp [nextW] at hw
 | a::ws,x::xs,h,hb,w,hw=>by
  have ih:=nextW_bd h.2 (fun w hw=>hb w (List.mem_cons_of_mem _ hw))
  have ha:=hb a mms
  unfold nextW at hw
  split at hw
  ·rcases List.mem_cons.1 hw with e|e
   ·omega
   ·exact ih w e
  ·exact ih w hw
 | [],_::_,h,_,_,_=>h.elim
 | _::_,[],h,_,_,_=>h.elim
theorem leL_len:∀ {ws xs:List Nat},leL ws xs→ws.length=xs.length
 | [],[],_=>rfl
 | w::ws,x::xs,h=>by rw [List.length_cons,List.length_cons,leL_len h.2]
 | [],_::_,h=>h.elim
 | _::_,[],h=>h.elim
theorem leL_of {ws xs:List Nat} (hl:ws.length=xs.length) (h:∀ (k w x:Nat),ws[k]?=some w→xs[k]?=some x→x≤w):leL ws xs:=by
 induction ws generalizing xs with
 | nil=>cases xs with
  | nil=>trivial
  | cons x xs=>simp at hl
 | cons w ws ih=>cases xs with
  | nil=>simp at hl
  | cons x xs=>exact ⟨h 0 w x rfl rfl,ih (by simpa using hl) fun k a b h1 h2=>h (k+1) a b (by simpa using h1) (by simpa using h2)⟩
theorem carry_units (next:Int):∀ {L:List Tk} {ws xs:List Nat},L.length=ws.length→leL ws xs→(carryL next L (ofN ws) (ofN xs)).map (fun x=>x.o.units)=ofN (nextW ws xs)
 | [],[],[],_,_=>rfl
 | x::L,w::ws,a::xs,hl,h=>by
  have ih:=carry_units next (L:=L) (by simpa using hl) h.2
  unfold ofN at ih ⊢
  simp only [List.map_cons,carryL,nextW]
  have h1:=h.1
  by_cases c:a<w
  ·rw [if_pos (by simpa using c),if_pos c,List.map_cons,List.map_cons,ih]
   congr 1
   show Int.ofNat w - Int.ofNat a=Int.ofNat (w - a)
   simp only [Int.ofNat_eq_natCast];omega
  ·rw [if_neg (by simpa using c),if_neg c,ih]
 | [],_::_,_,hl,_=>by simp at hl
 | _::_,[],_,hl,_=>by simp at hl
 | _::_,_::_,[],_,h=>h.elim
 | [],[],_::_,_,h=>h.elim
theorem carry_keys (next:Int):∀ (L:List Tk) (ws ss:List Int),((carryL next L ws ss).map fun x=>x.o.key).Sublist (L.map fun x=>x.o.key)
 | [],_,_=>by simp [carryL]
 | x::L,[],_=>by simp [carryL]
 | x::L,w::ws,[]=>by simp [carryL]
 | x::L,w::ws,a::ss=>by
  have ih:=carry_keys next L ws ss
  unfold carryL
  split
  ·rw [List.map_cons,List.map_cons];exact ih.cons_cons _
  ·rw [List.map_cons];exact ih.cons _
theorem carry_ok (next:Int):∀ {L:List Tk} {ws ss:List Int},(∀ x∈L,okO x.o=true∧x.o.void=false)→(∀ w∈ws,w≤1000000)→(∀ a∈ss,0≤a)→∀ y∈carryL next L ws ss,okO y.o=true∧y.o.void=false
 | [],_,_,_,_,_,y,hy=>by simp [carryL] at hy
 | x::L,[],_,_,_,_,y,hy=>by simp [carryL] at hy
 | x::L,w::ws,[],_,_,_,y,hy=>by simp [carryL] at hy
 | x::L,w::ws,a::ss,h,hw,ha,y,hy=>by
  have ih:=carry_ok next (L:=L) (ws:=ws) (ss:=ss) (fun x hx=>h x (List.mem_cons_of_mem _ hx)) (fun w h=>hw w (List.mem_cons_of_mem _ h)) (fun a h=>ha a (List.mem_cons_of_mem _ h))
  have h0:=h x mms
  have hw0:=hw w mms
  have ha0:=ha a mms
  unfold carryL at hy
  split at hy
  ·rename_i hlt
   rcases List.mem_cons.1 hy with e|e
   ·subst e
    obtain ⟨h1,h2⟩:=h0
    unfold okO at h1 ⊢
    simp only [Bool.and_eq_true] at h1 ⊢
    refine ⟨⟨h1.1,h1.2.1,?_⟩,h2⟩
    show askO { x.o with kind:=3,amount:=0,units:=w - a }=true
    unfold askO
    simp [inR]
    omega
   ·exact ih y e
  ·exact ih y hy
theorem div_sum (pr:Nat) (h:1≤pr):∀ (ps:List Nat),sumL ps+ps.length≤pr*sumL (ps.map (· / pr))+ps.length*pr
 | []=>by simp [sumL]
 | p::ps=>by
  have ih:=div_sum pr h ps
  have h1:=Nat.div_add_mod p pr
  have h2:=Nat.mod_lt p (show 0<pr by omega)
  simp only [List.map_cons,sumL,List.length_cons]
  rw [Nat.mul_add,Nat.add_mul,Nat.one_mul]
  omega
theorem div_mul (pr:Nat) (h:1≤pr):∀ (ws:List Nat),(ws.map (·*pr)).map (· / pr)=ws
 | []=>rfl
 | w::ws=>by simp only [List.map_cons,div_mul pr h ws,Nat.mul_div_cancel w (show 0<pr by omega)]
end Ga
end Go.Proofs.YtooeabibhjbkoaaGreat
namespace Go.Proofs.YtooeabibhjbkoaaGreat
open Go.RowKit Big Reg Al Ap Ga
namespace Ga
def fD (U:Nat):Nat:=if U≤100 then U else if U≤300 then 100+(U - 94) / 7 else 129+(U - 274) / 27
theorem fD_step {U X:Nat} (h1:1≤X) (h2:X≤U) (h3:U≤10*X+40∨U - X≤99):fD (U - X)+1≤fD U:=by
 unfold fD
 split<;>split<;>(try split)<;>(try split)<;>omega
theorem fD_pos {U:Nat} (h:1≤U):1≤fD U:=by unfold fD;split<;>(try split)<;>omega
theorem fD_top {U:Nat} (h:U≤1299):fD U≤200:=by unfold fD;split<;>(try split)<;>omega
theorem room_ten {N p q:Nat} {pt:Int} (hq:q≠0) (hpe:(p:Int)*100=pt*(q:Int)) (h1:10≤pt):N≤10*(roomZ (N:Int) p q).toNat+9:=by
 obtain ⟨k,hk⟩:∃ k:Nat,pt=(k:Int):=⟨pt.toNat,by omega⟩
 subst hk
 have hpe2:p*100=k*q:=by exact_mod_cast hpe
 have hk:10≤k:=by omega
 have hT:(roomZ (N:Int) p q).toNat=p*N / q:=by
  unfold roomZ
  rw [←Int.natCast_mul,←Int.natCast_ediv,Int.toNat_natCast]
 rw [hT]
 obtain ⟨T,hTT⟩:∃ T,T=p*N / q:=⟨_,rfl⟩
 have h2:p*N<q*(T+1):=by
  have a1:=Nat.div_add_mod (p*N) q
  have a2:=Nat.mod_lt (p*N) (show 0<q by omega)
  rw [←hTT] at a1
  rw [Nat.mul_succ];omega
 rw [←hTT]
 have h3:k*N*q<100*(T+1)*q:=by
  have a1:p*N*100<q*(T+1)*100:=Nat.mul_lt_mul_of_pos_right h2 (by decide)
  have a2:p*N*100=k*N*q:=by rw [Nat.mul_right_comm,hpe2,Nat.mul_right_comm]
  have a3:q*(T+1)*100=100*(T+1)*q:=by rw [Nat.mul_comm,Nat.mul_comm q,←Nat.mul_assoc]
  omega
 have h4:=Nat.lt_of_mul_lt_mul_right h3
 have h5:10*N≤k*N:=Nat.mul_le_mul_right _ hk
 omega
theorem vals_req {pr:Nat} {L:List Tk} {wn:List Nat} (h:L.length=wn.length):valsN (reqL pr L wn)=wn.map (·*pr):=by
 apply List.ext_getElem?
 intro i
 by_cases hi:i<L.length
 ·have h1:L[i]?=some L[i]:=List.getElem?_eq_getElem hi
  have h2:wn[i]?=some (wn[i]'(by omega)):=List.getElem?_eq_getElem _
  rw [valsN,List.getElem?_map,reqL_at h1 h2,List.getElem?_map,h2]
  simp only [Option.map_some,rqOf]
  congr 1
 ·rw [List.getElem?_eq_none (by rw [valsN,List.length_map,reqL_len h];omega),List.getElem?_eq_none (by rw [List.length_map];omega)]
theorem day_out {pr:Nat} {L:List Tk} {wn:List Nat} {r:Int} {outs:List Int} (h:DayOk L wn) (hp:1≤pr) (ho:Outs r (reqL pr L wn) outs) :
  ∃ ps:List Nat,ps.length=L.length∧CapsP r.toNat (wn.map (·*pr)) ps∧outs=ofN (ps.map (· / pr))∧leL wn (ps.map (· / pr)):=by
 obtain ⟨hol,ps,hc,hl,hat⟩:=outs_at ho
 rw [vals_req h.len] at hc
 rw [reqL_len h.len] at hl hol
 refine ⟨ps,hl,hc,?_,leL_of (by rw [List.length_map,hl,h.len]) fun k w x h1 h2=>?_⟩
 ·apply List.ext_getElem?
  intro i
  by_cases hi:i<L.length
  ·have h1:L[i]?=some L[i]:=List.getElem?_eq_getElem hi
   have h2:wn[i]?=some (wn[i]'(by have:=h.len;omega)):=List.getElem?_eq_getElem _
   have h3:ps[i]?=some (ps[i]'(by omega)):=List.getElem?_eq_getElem _
   obtain ⟨w1,w2⟩:=h.w _ (List.mem_of_getElem? h2)
   rw [hat i _ (reqL_at h1 h2),ofN_at (x:=ps[i] / pr) (by rw [List.getElem?_map,h3];rfl)]
   congr 1
   have hgd:ps.getD i 0=ps[i]:=by simp [List.getD,h3]
   rw [hgd]
   obtain ⟨w,hw⟩:∃ w,w=wn[i]'(by have:=h.len;omega):=⟨_,rfl⟩
   rw [←hw] at w1 ⊢
   have hv:0<(rqOf pr L[i] w).value:=Int.mul_pos (by omega) (by omega)
   rw [scI_eq hv (by show (0:Int)≤(w:Int);omega)]
   have e1:(rqOf pr L[i] w).units.toNat=w:=Int.toNat_natCast w
   have e2:(rqOf pr L[i] w).value.toNat=w*pr:=by show ((w:Int)*(pr:Int)).toNat=w*pr;rw [←Int.natCast_mul];exact Int.toNat_natCast _
   rw [e1,e2,Nat.mul_div_mul_left _ _ (show 0<w by omega)]
  ·rw [List.getElem?_eq_none (by omega),List.getElem?_eq_none (by rw [ofN_len,List.length_map];omega)]
 ·rw [List.getElem?_map] at h2
  cases h3:ps[k]? with
  | none=>rw [h3] at h2;cases h2
  | some pk =>
   rw [h3] at h2
   injection h2 with h2
   rw [←h2]
   have hk:k<(wn.map (·*pr)).length:=by rw [List.length_map];exact (List.getElem?_eq_some_iff.1 h1).1
   have:=caps_le hc hk
   rw [show ps.getD k 0=pk by simp [List.getD,h3],show (wn.map (·*pr)).getD k 0=w*pr by simp [List.getD,h1]] at this
   exact Nat.div_le_of_le_mul (by rw [Nat.mul_comm];exact this)
theorem ofN_inj {a b:List Nat} (h:ofN a=ofN b):a=b:=by
 have:=congrArg (List.map Int.toNat) h
 simpa [ofN,List.map_map,Function.comp_def] using this
theorem day_step {pr U u0 p q:Nat} {pt:Int} {L:List Tk} {wn xs:List Nat} {outs:List Int} (h:DayOk L wn) (hn:1≤L.length) (hp:1≤pr) (hU:U=u0+sumL wn) (hu:u0≤99) (hq:q≠0) (hpe:(p:Int)*100=pt*(q:Int)) (hpt:10≤pt)
  (ho:Outs (roomZ ((U*pr:Nat):Int) p q) (reqL pr L wn) outs) (hx:outs=ofN xs):leL wn xs∧(sumL xs=0→(roomZ ((U*pr:Nat):Int) p q).toNat<L.length*pr)∧(U≤10*sumL xs+40∨U - sumL xs≤99):=by
 obtain ⟨ps,hl,hc,he,hle⟩:=day_out h hp ho
 have hxs:xs=ps.map (· / pr):=by
  rw [hx] at he
  exact ofN_inj he
 have ht:=room_ten (N:=U*pr) hq hpe hpt
 obtain ⟨T,hT⟩:∃ T,T=(roomZ ((U*pr:Nat):Int) p q).toNat:=⟨_,rfl⟩
 rw [←hT] at ht hc ⊢
 have hw1:1≤sumL wn:=by
  cases wn with
  | nil=>have:=h.len;simp at this;rw [this] at hn;simp at hn
  | cons w ws=>have:=(h.w w mms).1;simp only [sumL];omega
 rw [hxs]
 refine ⟨hle,?_⟩
 rcases hc.2 with ⟨_,e⟩|⟨h1,h2⟩
 ·rw [e,div_mul pr hp]
  exact ⟨fun h0=>by omega,.inr (by omega)⟩
 ·have hsp:=parts_sum (by omega) h2
  have hd:=div_sum pr hp ps
  rw [hsp,hl] at hd
  obtain ⟨X,hX⟩:∃ X,X=sumL (ps.map (· / pr)):=⟨_,rfl⟩
  rw [←hX] at hd ⊢
  refine ⟨fun h0=>by rw [h0,Nat.mul_zero] at hd;omega,.inl ?_⟩
  have hl4:=h.l4
  have hnp:L.length*pr+4≤4*pr+L.length:=by
   have h3:(4 - L.length)*1≤(4 - L.length)*pr:=Nat.mul_le_mul_left _ hp
   have h4:4*pr=(4 - L.length)*pr+L.length*pr:=by rw [←Nat.add_mul];congr 1;omega
   omega
  have h5:U*pr≤(10*X+40)*pr:=by
   have:(10*X+40)*pr=10*(pr*X)+10*(4*pr):=by rw [Nat.add_mul,Nat.mul_comm pr X,←Nat.mul_assoc,←Nat.mul_assoc]
   omega
  exact Nat.le_of_mul_le_mul_right h5 (by omega)
theorem day_next {L:List Tk} {wn xs:List Nat} (h:DayOk L wn) (hle:leL wn xs) (day:Int):DayOk (carryL day L (ofN wn) (ofN xs)) (nextW wn xs):=by
 have hu:=carry_units day h.len hle
 refine ⟨?_,Nat.le_trans (carry_len ..) h.l4,(carry_keys day L _ _).nodup h.keys,carry_ok day h.ok (fun w hw=>?_) (fun a ha=>?_),nextW_bd hle h.w⟩
 ·have:=congrArg List.length hu
  rwa [List.length_map,ofN_len] at this
 ·obtain ⟨v,hv,rfl⟩:=List.mem_map.1 hw
  have:=(h.w v hv).2
  show (v:Int)≤1000000
  omega
 ·obtain ⟨v,_,rfl⟩:=List.mem_map.1 ha
  exact Int.natCast_nonneg v
theorem day_carry {L:List Tk} {wn xs:List Nat} (h:DayOk L wn) (hle:leL wn xs) {day:Int} (hd:0≤day∧day≤73048):carryE L (ofN wn) (ofN xs) day=none:=by
 have hl4:=h.l4
 have hll:=leL_len hle
 unfold carryE
 rw [if_neg (by rw [ofN_len,ofN_len];have:=h.len;omega),okCs_all (by rw [ofN_len,h.len]) (by rw [ofN_len,h.len,hll]) (fun k x w a h1 h2 h3=>?_),if_neg (by decide),if_neg (by omega)]
 obtain ⟨o1,o2⟩:=h.ok x (List.mem_of_getElem? h1)
 rw [ofN,List.getElem?_map] at h2 h3
 cases hw:wn[k]? with
 | none=>rw [hw] at h2;cases h2
 | some w' =>
  cases ha:xs[k]? with
  | none=>rw [ha] at h3;cases h3
  | some a' =>
   rw [hw] at h2;rw [ha] at h3
   injection h2 with h2;injection h3 with h3
   obtain ⟨b1,b2⟩:=h.w w' (List.mem_of_getElem? hw)
   have hla:a'≤w':=by
    have:∀ {ws xs:List Nat} {k w a:Nat},leL ws xs→ws[k]?=some w→xs[k]?=some a→a≤w:=by
     intro ws
     induction ws with
     | nil=>intro xs k w a _ h;simp at h
     | cons b bs ih =>
      intro xs k w a hl h1 h2
      cases xs with
      | nil=>exact hl.elim
      | cons c cs =>
       cases k with
       | zero=>simp at h1 h2;subst h1 h2;exact hl.1
       | succ k=>exact ih hl.2 (by simpa using h1) (by simpa using h2)
    exact this hle hw ha
   unfold okC
   rw [o1,o2,←h2,←h3]
   show (!false&&true&&inR (Int.ofNat w') 1 1000000000000000&&inR (Int.ofNat a') 0 (Int.ofNat w'))=true
   rw [inR_of (by simp;omega) (by simp;omega),inR_of (by simp) (by simp;omega)]
   rfl
theorem made_day {L:List Tk} {wn:List Nat} (h:MadeTs 4 L) (hl:wn.length=L.length) (hw:∀ w∈wn,1≤w∧w≤300):DayOk L wn:=by
 have h4:=h.1
 refine ⟨hl.symm,h4,?_,fun x hx=>?_,hw⟩
 ·rw [List.nodup_iff_pairwise_ne,List.pairwise_iff_getElem]
  intro i j hi hj hij e
  simp only [List.length_map] at hi hj
  simp only [List.getElem_map] at e
  have hi':=h.2 i _ (List.getElem?_eq_getElem hi)
  have hj':=h.2 j _ (List.getElem?_eq_getElem hj)
  rw [hi'.key,hj'.key] at e
  have:=keyO_inj i (by omega) j (by omega) e
  omega
 ·obtain ⟨k,hk⟩:=List.mem_iff_getElem?.1 hx
  have hm:=h.2 k x hk
  have hkl:=(List.getElem?_eq_some_iff.1 hk).1
  exact ⟨made_ok hm (by omega),hm.void⟩
end Ga
end Go.Proofs.YtooeabibhjbkoaaGreat
