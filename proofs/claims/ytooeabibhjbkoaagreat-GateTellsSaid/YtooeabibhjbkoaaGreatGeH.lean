import Derived.Test.YtooeabibhjbkoaaGreatGeG
import Derived.ProofKit
import Derived.OpenShut
import Derived.Deep.Slices
import Derived.Deep.Strs
import Derived.Lib.SmallJoins
import Derived.DataShut
set_option linter.unusedVariables false
set_option linter.unusedSimpArgs false
set_option maxRecDepth 100000
set_option maxHeartbeats 8000000
namespace Go.Proofs.YtooeabibhjbkoaaGreat
open Go.RowKit Big Reg Al Ap Ga Go.ChangeShapes Go.WideShapes Go.ChangeAt Go.Joins Go.Deep
open Lib (hid)
theorem Tryz.cells48:Tryz.prog.cellsOf 48=3:=by kernel_rfl
theorem Tryz.cells27:Tryz.prog.cellsOf 27=66:=by kernel_rfl
theorem Tryz.cells25:Tryz.prog.cellsOf 25=33:=by kernel_rfl
theorem Tryz.cells23:Tryz.prog.cellsOf 23=32:=by kernel_rfl
theorem Tryz.cells22:Tryz.prog.cellsOf 22=1:=by kernel_rfl
theorem Tryz.cells9:Tryz.prog.cellsOf 9=1:=by kernel_rfl
theorem Tryz.cells4:Tryz.prog.cellsOf 4=1:=by kernel_rfl
theorem Tryz.cells3:Tryz.prog.cellsOf 3=1:=by kernel_rfl
theorem list3 {cs:List Value} (h:cs.length=3):∃ a b c,cs=[a,b,c]:=by
 match cs,h with
 | [a,b,c],_=>exact ⟨a,b,c,rfl⟩
instance:Inhabited Rq:=⟨⟨⟨#[]⟩,0,0⟩⟩
theorem limbs_of (f:Nat→Nat) (n:Nat) (h:∀ i,i<n→f i<BB):∃ v,v<BB^n∧∀ i,i<n→lim v i=f i:=by
 induction n with
 | zero=>exact ⟨0,by simp,fun i hi=>by omega⟩
 | succ n ih =>
  obtain ⟨v,hv,hl⟩:=ih (fun i hi=>h i (by omega))
  refine ⟨v+f n*BB^n,?_,fun i hi=>?_⟩
  ·have hfn:=h n (by omega)
   have h2:(f n+1)*BB^n≤BB*BB^n:=Nat.mul_le_mul_right _ hfn
   rw [Nat.pow_succ,Nat.mul_comm (BB^n)]
   rw [Nat.add_mul,Nat.one_mul] at h2
   omega
  ·by_cases hin:i<n
   ·rw [lim_lo hin];exact hl i hin
   ·obtain rfl:i=n:=by omega
    rw [lim_hi hv (Nat.le_refl _),Nat.sub_self,lim_small (h i (by omega))];simp
theorem lv_get {n i:Nat} (v:Nat) (h:i<n):(lv n v)[i]?=some (.int .u32 (lim v i:Nat)):=by
 unfold lv cells
 rw [List.getElem?_map,dg_get v h];rfl
theorem add_at (g o j:Nat):(⟨g,o,none⟩:Addr).add j=⟨g,o+j,none⟩:=by unfold Addr.add;split<;>simp_all
set_option maxRecDepth 100000
section
variable {H:Type} {enc:TypeId × Value→H} {w:World} {base:Nat} {spare:Nat→Bool} {held:Bool}
theorem magw_cells {n:Nat} {cs:List Value} {x:DataW H × List MemPlace} (h:DataW.trod enc Tryz.prog w base spare held n 23 cs=some x):∃ v,v<BB^32∧cs=lv 32 v:=by
 obtain ⟨xs,m,_,_,hl,hn,hf⟩:=DataW.trod_array Tryz.underlying23 h
 rw [Tryz.cells23] at hl
 have hi:∀ i,i<32→∃ d:Nat,d<BB∧cs[i]?=some (.int .u32 (d:Int)):=by
  intro i hi
  have h1:=hf i hi
  obtain ⟨y,hy⟩:∃ y,xs[i]?=some y:=⟨_,List.getElem?_eq_getElem (by omega)⟩
  rw [hy,Tryz.cells22,Nat.mul_one] at h1
  obtain ⟨d,e,_,hw⟩:=DataW.trod_int Tryz.underlying22 h1
  rw [Lit.wf_int_iff] at hw
  have hi':i<cs.length:=by omega
  rw [List.drop_eq_getElem_cons hi'] at e
  simp only [List.take_succ_cons,List.take_zero,List.cons.injEq,and_true] at e
  have h0:(0:Int)≤d:=hw.1
  have h2:d≤4294967295:=hw.2
  obtain ⟨k,rfl⟩:=Int.eq_ofNat_of_zero_le h0
  exact ⟨k,by unfold BB;omega,by rw [List.getElem?_eq_getElem hi',e]⟩
 obtain ⟨f,hf⟩:=choose_lt (α:=Nat) (n:=32) (p:=fun i d=>d<BB∧cs[i]?=some (.int .u32 (d:Int))) hi
 obtain ⟨v,hv,hlim⟩:=limbs_of f 32 (fun i hi=>(hf i hi).1)
 refine ⟨v,hv,List.ext_getElem? fun i=>?_⟩
 by_cases hlt:i<32
 ·rw [(hf i hlt).2,lv_get v hlt,hlim i hlt]
 ·rw [List.getElem?_eq_none (by omega),List.getElem?_eq_none (by rw [qlL];omega)]
theorem intw_cells {n:Nat} {cs:List Value} {x:DataW H × List MemPlace} (h:DataW.trod enc Tryz.prog w base spare held n 25 cs=some x):∃ (b:Bool) (v:Nat),v<BB^32∧cs=.bool b::lv 32 v:=by
 obtain ⟨y0,y1,m,_,hl,h0,h1⟩:=trod_struct2 Tryz.underlying25 h
 rw [Tryz.cells25] at hl
 simp only [Tryz.cells4,Tryz.cells23,List.drop_zero] at h0 h1
 obtain ⟨b,e0,_⟩:=DataW.trod_bool Tryz.underlying4 h0
 obtain ⟨v,hv,e1⟩:=magw_cells h1
 refine ⟨b,v,hv,?_⟩
 match cs,hl with
 | c::cs',hl =>
  simp only [List.take_succ_cons,List.take_zero,List.cons.injEq,and_true] at e0
  simp only [List.drop_succ_cons,List.drop_zero] at e1
  rw [List.take_of_length_le (by simp at hl;omega)] at e1
  rw [e0,e1]
theorem ratio_cells {n:Nat} {cs:List Value} {x:DataW H × List MemPlace} (h:DataW.trod enc Tryz.prog w base spare held n 27 cs=some x):∃ (a b:Bool) (p q:Nat),cs=rat a p b q∧p<BB^32∧q<BB^32:=by
 obtain ⟨y0,y1,m,_,hl,h0,h1⟩:=trod_struct2 Tryz.underlying27 h
 rw [Tryz.cells27] at hl
 simp only [Tryz.cells25,List.drop_zero] at h0 h1
 obtain ⟨a,p,hp,e0⟩:=intw_cells h0
 obtain ⟨b,q,hq,e1⟩:=intw_cells h1
 refine ⟨a,b,p,q,?_,hp,hq⟩
 rw [List.take_of_length_le (by rw [List.length_drop];omega)] at e1
 unfold rat
 rw [←e0,←e1,List.take_append_drop]
theorem open_ratio {r:Reach} {b0:Nat} {v:Value} {d:DataW H} {p:List MemPlace} (hv:Value.okWide Tryz.prog w r b0 27 v) (h:DataW.Trod enc Tryz.prog w base spare held 27 v d p) :
  ∃ cs:List Value,v=.agg cs.toArray∧∃ (a b:Bool) (p q:Nat),cs=rat a p b q∧p<BB^32∧q<BB^32:=by
 obtain ⟨cs,rfl,hsz⟩:=okWide_struct Tryz.underlying27 hv
 obtain ⟨fuel,hf⟩:=h
 exact ⟨cs.toList,by simp,ratio_cells (by simpa [Value.cells] using hf)⟩
theorem trod_three {t:TypeId} {f0 f1 f2:Field} {fuel:Nat} {cs:List Value} {x:DataW H × List MemPlace} {P:Program} (ht:P.underlying t=some (.struct #[f0,f1,f2])) (h:DataW.trod enc P w base spare held fuel t cs=some x) :
  ∃ y0 y1 y2 n,cs.length=P.cellsOf t∧DataW.trod enc P w base spare held n f0.type ((cs.drop f0.offset).take (P.cellsOf f0.type))=some y0 ∧
   DataW.trod enc P w base spare held n f1.type ((cs.drop f1.offset).take (P.cellsOf f1.type))=some y1∧DataW.trod enc P w base spare held n f2.type ((cs.drop f2.offset).take (P.cellsOf f2.type))=some y2:=by
 obtain ⟨xs,n,_,rfl,hl,hlen,hf⟩:=DataW.trod_struct ht h
 match xs,hlen with
 | [y0,y1,y2],_=>exact ⟨y0,y1,y2,n,hl,by simpa using hf 0 f0 rfl,by simpa using hf 1 f1 rfl,by simpa using hf 2 f2 rfl⟩
theorem req_cells {n:Nat} {cs:List Value} {x:DataW H × List MemPlace} (h:DataW.trod enc Tryz.prog w base spare held n 48 cs=some x):∃ b:Rq,cs=b.cells:=by
 obtain ⟨y0,y1,y2,m,hl,h0,h1,h2⟩:=trod_three Tryz.underlying48 h
 rw [Tryz.cells48] at hl
 obtain ⟨c0,c1,c2,rfl⟩:=list3 hl
 simp only [Tryz.cells3,Tryz.cells9] at h0 h1 h2
 obtain ⟨a,e0,_,_⟩:=DataW.trod_string Tryz.underlying9 h0
 obtain ⟨b,e1,_,_⟩:=DataW.trod_int Tryz.underlying3 h1
 obtain ⟨c,e2,_,_⟩:=DataW.trod_int Tryz.underlying3 h2
 simp at e0 e1 e2
 exact ⟨⟨a,b,c⟩,by rw [e0,e1,e2];rfl⟩
theorem reqs_cells {n:Nat} {cs:List Value} {x:DataW H × List MemPlace} (h:DataW.trod enc Tryz.prog w base spare held n 28 cs=some x):∃ (A:Option Addr) (cap:Nat) (l:List Rq),cs=[.slice A l.length cap]∧RqsAt w (.slice A l.length cap) l:=by
 rcases open_slice Tryz.underlying28 h with ⟨rfl,_⟩|⟨a,len,cap,m,k,D,Pl,rfl,_,hlc,hcm,hm,_,hx⟩
 ·exact ⟨none,0,[],rfl,by simp [Ga.cellsQ],by decide,none,0,rfl,fun h=>by simp at h⟩
 ·have hlm:len≤m:=by rw [hm];split<;>omega
  rw [Tryz.cells48] at hx
  obtain ⟨f,hf⟩:=choose_lt (α:=Rq) (n:=len) (p:=fun i y=>w.cells? base (a.add (i*3)) 3=some y.cells) (fun i hi=>by
   obtain ⟨cs',h1,h2⟩:=hx i (by omega)
   obtain ⟨y,rfl⟩:=req_cells h2
   exact ⟨y,h1⟩)
  have hlen:((List.range len).map f).length=len:=by simp
  refine ⟨some a,cap,(List.range len).map f,by rw [hlen],by rw [Ga.cellsQ_len],by rw [hlen];exact Nat.le_trans hlc hcm,some a,cap,rfl,fun h0=>?_⟩
  have hcell:∀ i,i<len→∀ j,j<3→w.cell? ((a.add (i*3)).add j)=(f i).cells[j]?:=fun i hi j hj=>(World.cells?_some (hf i hi)).2.2 j hj
  have hsp:a.spot=none:=by
   have:=hcell 0 (by rw [hlen] at h0;exact h0) 0 (by omega)
   cases hs:a.spot with
   | none=>rfl
   | some p=>exfalso;simp [World.cell?,Addr.add,hs,Rq.cells] at this;split at this<;>simp at this
  obtain ⟨g,off,sp⟩:=a
  simp only at hsp
  subst hsp
  refine ⟨g,off,rfl,fun j u hj=>?_⟩
  have hjl:j<len*3:=by
   have:=(List.getElem?_eq_some_iff.1 hj).1
   rwa [Ga.cellsQ_len,hlen] at this
  have hi:j / 3<len:=by omega
  have hr:=hcell (j / 3) hi (j%3) (by omega)
  rw [add_at,add_at] at hr
  have e:off+j / 3*3+j%3=off+j:=by omega
  rw [e] at hr
  rw [hr]
  obtain ⟨u',hu'⟩:∃ u',(f (j / 3)).cells[j%3]?=some u':=⟨_,List.getElem?_eq_getElem (show j%3<3 by omega)⟩
  have hg:=Ga.cellsQ_get ((List.range len).map f) (j / 3) (f (j / 3)) (by simp [hi]) (j%3) u' hu'
  rw [show j / 3*3+j%3=j by omega,hj] at hg
  rw [hu',hg]
theorem open_reqs {r:Reach} {b0:Nat} {v:Value} {d:DataW H} {p:List MemPlace} (hv:Value.okWide Tryz.prog w r b0 28 v) (h:DataW.Trod enc Tryz.prog w base spare held 28 v d p) :
  ∃ (A:Option Addr) (cap:Nat) (l:List Rq),v=.slice A l.length cap∧RqsAt w (.slice A l.length cap) l:=by
 obtain ⟨a,len,cap,rfl⟩:=okWide_slice Tryz.underlying28 hv
 obtain ⟨fuel,hf⟩:=h
 obtain ⟨A,cap',l,e,hL⟩:=reqs_cells hf
 simp [Value.cells] at e
 obtain ⟨rfl,rfl,rfl⟩:=e
 exact ⟨_,_,l,rfl,hL⟩
end
theorem allow_small {n:Nat} {net:Int} {gn gm:Bool} {p q:Nat} {l:List Rq} (hn:n=l.length) (h:allowE net gn gm p q l=none):n≤1000000:=by
 unfold allowE at h
 split at h
 ·cases h
 split at h
 ·cases h
 split at h
 ·cases h
 ·rename_i hc
  have:=check_len (l:=l) (by cases hh:checkQ l<;>simp_all)
  omega
theorem Rd.nil (w:World):Rd w 1 (.slice none 0 0) ([]:List Int).length (([]:List Int).map (Value.int .i64)):=⟨rfl,by decide,none,0,rfl,fun h=>absurd h (by decide)⟩
theorem tells_raw (net:Int) (cr:List Value) (A:Option Addr) (cap:Nat) (l:List Rq) (w:World) (hr:∃ (a b:Bool) (p q:Nat),cr=rat a p b q∧p<BB^32∧q<BB^32) (h:RqsAt w (.slice A l.length cap) l) :
  Calls Tryz.prog 3 #[.int .i64 net,.agg cr.toArray,.slice A l.length cap] w fun e w'=>e=.returned (.bool true)∧Below w.heap.size w w':=by
 obtain ⟨gn,gm,p,q,hcr,hp,hq⟩:=hr
 obtain ⟨n,hn⟩:∃ n,n=l.length:=⟨_,rfl⟩
 have V_cr:=hid hcr
 obtain ⟨B0,hB0⟩:∃ B,B=w.heap.size:=⟨_,rfl⟩
 obtain ⟨w0,hw0⟩:∃ w0,w0=(w.alloc (.cells cr.toArray 27)):=⟨_,rfl⟩
 have AB0:=hid (show At w0 B0 0 cr by rw [hw0];exact At.fresh _ cr _ hB0)
 have hb0:Below w.heap.size w w0:=by rw [hw0];exact (Below.refl _ _).alloc (Nat.le_refl _) _
 have HB0:=hid hb0
 have HR:=hid (h.below hb0)
 have hmx:=h.2.1
 by_cases hmid:12<n∧n≤64
 ·obtain ⟨m1,m2⟩:=hmid
  have q1:(12:Int)<(n:Int):=by omega
  have q2:(n:Int)≤64:=by omega
  rw [←hn]
  clear hn h hmx m1 m2 hcr
  go_enter Tryz.func3,Tryz.ntmps3
  go_wp2_with (go_at_call 9;refine (awake_any _).mono ?_;rintro e w1 ⟨rfl,hb1⟩;have HB1:=hid hb1;clear hb1)
  go_ret
  exact ⟨rfl,((Below.refl _ _).alloc (Nat.le_refl _) _).trans (HB1.out.mono (by simp))⟩
 have hl:l.length≤19∨64<l.length:=by omega
 have HAL:=hid (fun W (hW:RqsAt W (.slice A l.length cap) l)=>allow_any net hcr hp hq (.slice A l.length cap) l W hW hl)
 have HRA:=hid (fun W (outs:List Int) (hO:allowE net gn gm p q l=none→Outs (roomZ net p q) l outs) (hW:RqsAt W (.slice A l.length cap) l)=>rallow_any net hcr hp hq (.slice A l.length cap) l outs W hW hl hO)
 rw [←hn] at HAL HRA HR ⊢
 have HMID:=hid hmid
 have HN:=hid hn
 clear h hcr hp hq hl
 have step:∀ {e:Ending} {w':World},True→True:=fun _=>trivial
 clear step
 cases hE:allowE net gn gm p q l with
 | some code =>
  have HA:=hid (fun W (hW:RqsAt W (.slice A n cap) l)=>(show Calls Tryz.prog 10 #[.int .i64 net,.agg cr.toArray,.slice A n cap] W (fun e w'=>e=.returned (.tuple #[.slice none 0 0,.int .i64 code])∧Below W.heap.size W w') from (HAL.out W hW).mono (fun e w' ⟨hb,hh⟩=>by
   rcases hh with ⟨c,hc,he⟩|⟨hc,_⟩
   ·rw [hE] at hc;injection hc with hc;subst hc;exact ⟨he,hb⟩
   ·rw [hE] at hc;cases hc)))
  have HQ:=hid (fun W (hW:RqsAt W (.slice A n cap) l)=>(show Calls Tryz.prog 11 #[.int .i64 net,.agg cr.toArray,.slice A n cap] W (fun e w'=>e=.returned (.tuple #[.slice none 0 0,.int .i64 code])∧Below W.heap.size W w') from (HRA.out W [] (fun h=>by rw [hE] at h;cases h) hW).mono (fun e w' ⟨hb,hh⟩=>by
   rcases hh with ⟨c,hc,he⟩|⟨hc,_⟩
   ·rw [hE] at hc;injection hc with hc;subst hc;exact ⟨he,hb⟩
   ·rw [hE] at hc;cases hc)))
  clear hE HAL HRA hn
  have q1:¬((12:Int)<(n:Int)∧(n:Int)≤64):=by have:=HMID.out;omega
  go_enter Tryz.func3,Tryz.ntmps3
  by_cases r1:(12:Int)<(n:Int)
  ·have r2:¬(n:Int)≤64:=fun h=>q1 ⟨r1,h⟩
   go_upto_region 3 with fail
   rw [←hw0,←hB0]
   clear hw0 hB0 r1 r2 q1
   go_upto_region 4 with (first|(refine wpList_load_mid rfl _ _ rfl B0 0 rfl cr _ AB0.out.range Tryz.underlying27 rfl (qR V_cr.out) ?_)|(go_at_call 10;refine (HA.out _ HR.out).mono ?_;rintro e w1 ⟨rfl,hb1⟩;have HB1:=hid hb1;clear hb1))
   go_upto_region 5 with (first|(refine wpList_load_mid rfl _ _ rfl B0 0 rfl cr _ (AB0.out.below HB1.out).range Tryz.underlying27 rfl (qR V_cr.out) ?_)|(go_at_call 11;refine (HQ.out _ (HR.out.below HB1.out)).mono ?_;rintro e w2 ⟨rfl,hb2⟩;have HB2:=hid hb2;clear hb2))
   go_wp2_with fail
   refine (same_yes _ _ [] _ (Rd.nil _) (Rd.nil _)).mono ?_
   rintro e w3 ⟨rfl,hb3⟩
   have HB3:=hid hb3
   clear hb3
   go_wp2_with fail
   refine (awake_any _).mono ?_
   rintro e w4 ⟨rfl,hb4⟩
   have HB4:=hid hb4
   clear hb4
   go_wp2
   go_ret
   have z1:=HB0.out.trans (HB1.out.mono HB0.out.size)
   have z2:=z1.trans (HB2.out.mono z1.size)
   have z3:=z2.trans (HB3.out.mono z2.size)
   exact ⟨rfl,z3.trans (HB4.out.mono z3.size)⟩
  ·have r2:True:=trivial
   go_upto_region 3 with fail
   rw [←hw0,←hB0]
   clear hw0 hB0 r1 r2 q1
   go_upto_region 4 with (first|(refine wpList_load_mid rfl _ _ rfl B0 0 rfl cr _ AB0.out.range Tryz.underlying27 rfl (qR V_cr.out) ?_)|(go_at_call 10;refine (HA.out _ HR.out).mono ?_;rintro e w1 ⟨rfl,hb1⟩;have HB1:=hid hb1;clear hb1))
   go_upto_region 5 with (first|(refine wpList_load_mid rfl _ _ rfl B0 0 rfl cr _ (AB0.out.below HB1.out).range Tryz.underlying27 rfl (qR V_cr.out) ?_)|(go_at_call 11;refine (HQ.out _ (HR.out.below HB1.out)).mono ?_;rintro e w2 ⟨rfl,hb2⟩;have HB2:=hid hb2;clear hb2))
   go_wp2_with fail
   refine (same_yes _ _ [] _ (Rd.nil _) (Rd.nil _)).mono ?_
   rintro e w3 ⟨rfl,hb3⟩
   have HB3:=hid hb3
   clear hb3
   go_wp2_with fail
   refine (awake_any _).mono ?_
   rintro e w4 ⟨rfl,hb4⟩
   have HB4:=hid hb4
   clear hb4
   go_wp2
   go_ret
   have z1:=HB0.out.trans (HB1.out.mono HB0.out.size)
   have z2:=z1.trans (HB2.out.mono z1.size)
   have z3:=z2.trans (HB3.out.mono z2.size)
   exact ⟨rfl,z3.trans (HB4.out.mono z3.size)⟩
 | none =>
  have hsm:=allow_small HN.out hE
  have hol:∀ outs,Outs (roomZ net p q) l outs→outs.length=n:=fun outs ⟨ps,hp,ho⟩=>by rw [ho,scaleL,List.length_zipWith,hp.1,valsN,List.length_map,Nat.min_self,HN.out]
  have HA:=hid (fun W (hW:RqsAt W (.slice A n cap) l)=>(show Calls Tryz.prog 10 #[.int .i64 net,.agg cr.toArray,.slice A n cap] W (fun e w'=>∃ (outs:List Int) (g:Nat),e=.returned (.tuple #[.slice (some ⟨g,0,none⟩) n n,.int .i64 0])∧Below W.heap.size W w'∧Rd w' 1 (.slice (some ⟨g,0,none⟩) n n) n (cI outs)∧Outs (roomZ net p q) l outs) from (HAL.out W hW).mono (fun e w' ⟨hb,hh⟩=>by
   rcases hh with ⟨c,hc,_⟩|⟨_,g,outs,he,h2,h3,h4,h5⟩
   ·rw [hE] at hc;cases hc
   ·exact ⟨outs,g,by rw [he,HN.out],hb,(h4.at h3).rd (hol outs h5) hsm,h5⟩)))
  have HQ:=hid (fun W (outs:List Int) (ho:Outs (roomZ net p q) l outs) (hW:RqsAt W (.slice A n cap) l)=>(show Calls Tryz.prog 11 #[.int .i64 net,.agg cr.toArray,.slice A n cap] W (fun e w'=>∃ (g:Nat),e=.returned (.tuple #[.slice (some ⟨g,0,none⟩) n n,.int .i64 0])∧Below W.heap.size W w'∧Rd w' 1 (.slice (some ⟨g,0,none⟩) n n) n (cI outs)) from (HRA.out W outs (fun _=>ho) hW).mono (fun e w' ⟨hb,hh⟩=>by
   rcases hh with ⟨c,hc,_⟩|⟨_,g,he,h4⟩
   ·rw [hE] at hc;cases hc
   ·exact ⟨g,by rw [he,HN.out],hb,h4.rd (hol outs ho) hsm⟩)))
  have HOL:=hid hol
  clear hol hsm
  clear hE HAL HRA hn
  have q1:¬((12:Int)<(n:Int)∧(n:Int)≤64):=by have:=HMID.out;omega
  go_enter Tryz.func3,Tryz.ntmps3
  by_cases r1:(12:Int)<(n:Int)
  ·have r2:¬(n:Int)≤64:=fun h=>q1 ⟨r1,h⟩
   go_upto_region 3 with fail
   rw [←hw0,←hB0]
   clear hw0 hB0 r1 r2 q1
   go_upto_region 4 with (first|(refine wpList_load_mid rfl _ _ rfl B0 0 rfl cr _ AB0.out.range Tryz.underlying27 rfl (qR V_cr.out) ?_)|(go_at_call 10;refine (HA.out _ HR.out).mono ?_;rintro e w1 ⟨outs,g1,rfl,hb1,hrd1,ho1⟩;have HB1:=hid hb1;have HD1:=hid hrd1;have HO1:=hid ho1;clear hb1 hrd1 ho1))
   go_upto_region 5 with (first|(refine wpList_load_mid rfl _ _ rfl B0 0 rfl cr _ (AB0.out.below HB1.out).range Tryz.underlying27 rfl (qR V_cr.out) ?_)|(go_at_call 11;refine (HQ.out _ outs HO1.out (HR.out.below HB1.out)).mono ?_;rintro e w2 ⟨g2,rfl,hb2,hrd2⟩;have HB2:=hid hb2;have HD2:=hid hrd2;clear hb2 hrd2))
   have HLEN:=hid (HOL.out outs HO1.out)
   go_wp2_with fail
   refine (same_yes _ _ outs _ (by rw [HLEN.out];exact HD1.out.below HB2.out) (by rw [HLEN.out];exact HD2.out)).mono ?_
   rintro e w3 ⟨rfl,hb3⟩
   have HB3:=hid hb3
   clear hb3
   go_wp2_with fail
   refine (awake_any _).mono ?_
   rintro e w4 ⟨rfl,hb4⟩
   have HB4:=hid hb4
   clear hb4
   go_wp2
   go_ret
   have z1:=HB0.out.trans (HB1.out.mono HB0.out.size)
   have z2:=z1.trans (HB2.out.mono z1.size)
   have z3:=z2.trans (HB3.out.mono z2.size)
   exact ⟨rfl,z3.trans (HB4.out.mono z3.size)⟩
  ·have r2:True:=trivial
   go_upto_region 3 with fail
   rw [←hw0,←hB0]
   clear hw0 hB0 r1 r2 q1
   go_upto_region 4 with (first|(refine wpList_load_mid rfl _ _ rfl B0 0 rfl cr _ AB0.out.range Tryz.underlying27 rfl (qR V_cr.out) ?_)|(go_at_call 10;refine (HA.out _ HR.out).mono ?_;rintro e w1 ⟨outs,g1,rfl,hb1,hrd1,ho1⟩;have HB1:=hid hb1;have HD1:=hid hrd1;have HO1:=hid ho1;clear hb1 hrd1 ho1))
   go_upto_region 5 with (first|(refine wpList_load_mid rfl _ _ rfl B0 0 rfl cr _ (AB0.out.below HB1.out).range Tryz.underlying27 rfl (qR V_cr.out) ?_)|(go_at_call 11;refine (HQ.out _ outs HO1.out (HR.out.below HB1.out)).mono ?_;rintro e w2 ⟨g2,rfl,hb2,hrd2⟩;have HB2:=hid hb2;have HD2:=hid hrd2;clear hb2 hrd2))
   have HLEN:=hid (HOL.out outs HO1.out)
   go_wp2_with fail
   refine (same_yes _ _ outs _ (by rw [HLEN.out];exact HD1.out.below HB2.out) (by rw [HLEN.out];exact HD2.out)).mono ?_
   rintro e w3 ⟨rfl,hb3⟩
   have HB3:=hid hb3
   clear hb3
   go_wp2_with fail
   refine (awake_any _).mono ?_
   rintro e w4 ⟨rfl,hb4⟩
   have HB4:=hid hb4
   clear hb4
   go_wp2
   go_ret
   have z1:=HB0.out.trans (HB1.out.mono HB0.out.size)
   have z2:=z1.trans (HB2.out.mono z1.size)
   have z3:=z2.trans (HB3.out.mono z2.size)
   exact ⟨rfl,z3.trans (HB4.out.mono z3.size)⟩
end Go.Proofs.YtooeabibhjbkoaaGreat
