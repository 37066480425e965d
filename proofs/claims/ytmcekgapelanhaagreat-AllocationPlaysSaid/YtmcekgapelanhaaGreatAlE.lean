import Derived.Test.YtmcekgapelanhaaGreatAlC
import Derived.Test.YtmcekgapelanhaaGreatAlD
import Derived.Test.YtmcekgapelanhaaGreatQrA
set_option linter.unusedVariables false
set_option linter.unusedSimpArgs false
set_option maxRecDepth 100000
set_option maxHeartbeats 8000000
namespace Go.Proofs.YtmcekgapelanhaaGreat
open Go.RowKit Big Al Tok Ap
open Lib (hid)
theorem At.of_own {w:World} {B n g cap:Nat} {e:TypeId} {size:Nat} {xs:List Value} (h:w.ownsRow B e size (.slice (some ⟨g,0,none⟩) n cap) n xs):At w g 0 xs:=by
 have hc:=fun g'=>World.ownsRow.cells h (g:=g')
 rcases h.2 with ⟨h2,_⟩|⟨g',cap',cur,hv,hg,hh,hrest⟩
 ·cases h2
 ·injection hv with h1 h2 h3
  injection h1 with h1
  injection h1 with h1
  subst h1
  refine ⟨fun j u hj=>?_,fun j hj=>?_,(Array.getElem?_eq_some_iff.1 hh).1⟩
  ·have:=hc g rfl j u hj
   have hadd:(⟨g,0,none⟩:Addr).add j=⟨g,0+j,none⟩:=by unfold Addr.add;split<;>simp_all
   rwa [hadd] at this
  ·obtain ⟨u,hu⟩:∃ u,xs[j]?=some u:=⟨xs[j]'hj,List.getElem?_eq_getElem hj⟩
   have:=hc g rfl j u hu
   have hadd:(⟨g,0,none⟩:Addr).add j=⟨g,0+j,none⟩:=by unfold Addr.add;split<;>simp_all
   rw [hadd] at this
   exact ⟨by rw [this];rfl,frozen_of_row _ _ _ _ _ hh⟩
theorem big_small {z:Int} (h1:-4000000000000000000≤z) (h2:z≤4000000000000000000):z.natAbs<BB^2:=by
 have:(4000000000000000001:Nat)≤BB^2:=by unfold BB;decide
 omega
theorem bp_mul {a b i j:Nat} (ha:a<BB^i) (hb:b<BB^j):a*b<BB^(i+j):=by
 rw [Nat.pow_add];exact Nat.mul_lt_mul'' ha hb
theorem bp_up {a i j:Nat} (ha:a<BB^i) (hij:i≤j):a<BB^j:=Nat.lt_of_lt_of_le ha (Nat.pow_le_pow_right BB_pos hij)
theorem cellsI_two (a b:Int):cellsI [(decide (a<0),a.natAbs),(decide (b<0),b.natAbs)]=iZ a++iZ b:=by simp [cellsI,iZ]
theorem cellsI_three (a b c:Int):cellsI [(decide (a<0),a.natAbs),(decide (b<0),b.natAbs),(decide (c<0),c.natAbs)]=iZ a++(iZ b++iZ c):=by simp [cellsI,iZ]
theorem mulF_one (a:Int):mulF (false,1) (decide (a<0),a.natAbs)=(decide (a<0),a.natAbs):=by
 unfold mulF;simp only [Nat.one_mul,Bool.false_bne];rw [cs_of]
theorem mulF_int (a b:Int):mulF (decide (a<0),a.natAbs) (decide (b<0),b.natAbs)=(decide (a*b<0),(a*b).natAbs):=by
 unfold mulF;simp only;rw [sign_mul,abs_mul]
theorem prod_two {c1 c2 cr:List Value} {a b:Int} {bs:Nat} (h1:c1=iZ a) (h2:c2=iZ b) (hr:cr=iZ (a*b)) (ha:a.natAbs<BB^32) (hb:b.natAbs<BB^32) (hv:(a*b).natAbs<BB^32) (w:World) (hA:At w bs 0 (c1++c2)) :
  Calls Tryz.prog 40 #[.slice (some ⟨bs,0,none⟩) 2 2] w fun e w'=>e=.returned (.agg cr.toArray)∧Below w.heap.size w w':=by
 refine product_op (l:=[(decide (a<0),a.natAbs),(decide (b<0),b.natAbs)]) (n:=2) (s:=decide (a*b<0)) (P:=(a*b).natAbs) rfl (by omega) hr ?_ ?_ ?_ w (by rw [cellsI_two,←h1,←h2];exact hA)
 ·simp only [prodL,List.foldl_cons,List.foldl_nil,mulF_one,mulF_int]
 ·intro x hx
  simp only [List.mem_cons,List.not_mem_nil,or_false] at hx
  rcases hx with rfl|rfl<;>assumption
 ·intro k
  match k with
  | 0=>simp only [List.take_zero,prodL,List.foldl_nil];exact Nat.one_lt_pow (by omega) (by unfold BB;decide)
  | 1=>simp only [List.take_succ_cons,List.take_zero,prodL,List.foldl_cons,List.foldl_nil,mulF_one];exact ha
  | k+2=>simp only [List.take_succ_cons,List.take_nil,prodL,List.foldl_cons,List.foldl_nil,mulF_one,mulF_int];exact hv
theorem prod_three {c1 c2 c3 cr:List Value} {a b c:Int} {bs:Nat} (h1:c1=iZ a) (h2:c2=iZ b) (h3:c3=iZ c) (hr:cr=iZ (a*b*c)) (ha:a.natAbs<BB^32) (hb:b.natAbs<BB^32) (hc:c.natAbs<BB^32) (hv:(a*b).natAbs<BB^32) (hv2:(a*b*c).natAbs<BB^32) (w:World) (hA:At w bs 0 (c1++(c2++c3))) :
  Calls Tryz.prog 40 #[.slice (some ⟨bs,0,none⟩) 3 3] w fun e w'=>e=.returned (.agg cr.toArray)∧Below w.heap.size w w':=by
 refine product_op (l:=[(decide (a<0),a.natAbs),(decide (b<0),b.natAbs),(decide (c<0),c.natAbs)]) (n:=3) (s:=decide (a*b*c<0)) (P:=(a*b*c).natAbs) rfl (by omega) hr ?_ ?_ ?_ w (by rw [cellsI_three,←h1,←h2,←h3];exact hA)
 ·simp only [prodL,List.foldl_cons,List.foldl_nil,mulF_one,mulF_int]
 ·intro x hx
  simp only [List.mem_cons,List.not_mem_nil,or_false] at hx
  rcases hx with rfl|rfl|rfl<;>assumption
 ·intro k
  match k with
  | 0=>simp only [List.take_zero,prodL,List.foldl_nil];exact Nat.one_lt_pow (by omega) (by unfold BB;decide)
  | 1=>simp only [List.take_succ_cons,List.take_zero,prodL,List.foldl_cons,List.foldl_nil,mulF_one];exact ha
  | 2=>simp only [List.take_succ_cons,List.take_zero,prodL,List.foldl_cons,List.foldl_nil,mulF_one,mulF_int];exact hv
  | k+3=>simp only [List.take_succ_cons,List.take_nil,prodL,List.foldl_cons,List.foldl_nil,mulF_one,mulF_int];exact hv2
namespace Al
def sumO (l:List Bk):Nat:=sumL (l.map Bk.op)
def exR (c:Qn) (S:Nat) (b:Bk):Option Qn:=mkQ (c.1*(b.op:Int)+((b.op:Int)+b.own)*(c.2:Int)*(max S 1:Nat)) (c.2*max S 1)
def exL (c:Qn) (S:Nat):List Bk→Option (List Qn)
 | []=>some []
 | b::l=>match exR c S b with
  | none=>none
  | some r=>(exL c S l).map (r::·)
def exactR (t:Qn) (l:List Bk):Int × List Qn:=match subQ t ((sumO l:Int)+ownS l,1) with
 | none=>(if sumO l=0 then 211 else 10,[])
 | some c=>if sumO l=0∧c.1≠0 then (211,[]) else match exL c (sumO l) l with
  | none=>(10,[])
  | some rs=>(0,rs)
theorem vq_whole {z:Int} (h1:-4000000000000000000≤z) (h2:z≤4000000000000000000):VQ (z,1) :=
 ⟨bp_up (big_small h1 h2) (by omega),Nat.one_lt_pow (by omega) (by unfold BB;decide),by simp,by simp⟩
theorem sumO_bd {l:List Bk} (h:Oks l):sumO l≤4000000000000000:=by
 have h1:=sumL_le (l:=l.map Bk.op) (c:=1000000000000000) (fun x hx=>by obtain ⟨b,hb,rfl⟩:=List.mem_map.1 hx;exact (h.all b hb).op_le)
 have h2:(l.map Bk.op).length*1000000000000000≤4*1000000000000000:=Nat.mul_le_mul_right _ (by simp;exact h.len.2)
 unfold sumO;omega
theorem ownS_le {l:List Bk} (h:Oks l):-4000000000000000≤ownS l∧ownS l≤4000000000000000:=by
 have h1:=ownS_bd h.all _ rfl
 have h2:=h.len.2
 omega
theorem exL_take {c:Qn} {S:Nat}:∀ {l:List Bk} {k:Nat} {b:Bk} {rs:List Qn},exL c S (l.take k)=some rs→l[k]?=some b→exL c S (l.take (k+1))=(exR c S b).map fun r=>rs++[r]:=by
 intro l
 induction l with
 | nil=>intro k b rs _ hb;simp at hb
 | cons a l ih =>
  intro k b rs h hb
  cases k with
  | zero =>
   simp only [List.take_zero,exL,Option.some.injEq] at h
   simp only [List.getElem?_cons_zero,Option.some.injEq] at hb
   subst h hb
   simp only [Nat.zero_add,List.take_succ_cons,List.take_zero,exL]
   cases exR c S a<;>rfl
  | succ k =>
   simp only [List.take_succ_cons,exL] at h ⊢
   cases hr:exR c S a with
   | none=>rw [hr] at h;cases h
   | some r =>
    rw [hr] at h
    simp only at h ⊢
    cases hl:exL c S (l.take k) with
    | none=>rw [hl] at h;cases h
    | some rs' =>
     rw [hl] at h
     simp only [Option.map_some,Option.some.injEq] at h
     subst h
     rw [ih hl (by simpa using hb)]
     cases exR c S b<;>rfl
theorem exL_len {c:Qn} {S:Nat}:∀ {l:List Bk} {rs:List Qn},exL c S l=some rs→rs.length=l.length:=by
 intro l
 induction l with
 | nil=>intro rs h;simp only [exL,Option.some.injEq] at h;subst h;rfl
 | cons a l ih =>
  intro rs h
  simp only [exL] at h
  cases hr:exR c S a with
  | none=>rw [hr] at h;cases h
  | some r =>
   rw [hr] at h
   simp only at h
   cases hl:exL c S l with
   | none=>rw [hl] at h;cases h
   | some rs'=>rw [hl] at h;simp only [Option.map_some,Option.some.injEq] at h;subst h;simp [ih hl]
theorem exL_fail {c:Qn} {S:Nat}:∀ {l:List Bk} {k:Nat} {b:Bk},l[k]?=some b→exR c S b=none→exL c S l=none:=by
 intro l
 induction l with
 | nil=>intro k b hb;simp at hb
 | cons a l ih =>
  intro k b hb hn
  cases k with
  | zero =>
   simp only [List.getElem?_cons_zero,Option.some.injEq] at hb
   subst hb
   simp only [exL,hn]
  | succ k =>
   simp only [exL]
   cases exR c S a with
   | none=>rfl
   | some r=>simp only;rw [ih (by simpa using hb) hn];rfl
end Al
def cellsQ (rs:List Qn):List Value:=rs.flatMap fun r=>ratZ r.1 r.2
theorem ratZ_len (z:Int) (q:Nat):(ratZ z q).length=66:=by simp [ratZ,rat,qlL]
theorem cellsQ_len (rs:List Qn):(cellsQ rs).length=rs.length*66:=by
 induction rs with
 | nil=>rfl
 | cons x l ih=>simp only [cellsQ,List.flatMap_cons,List.length_append,List.length_cons,ratZ_len] at ih ⊢;rw [ih];omega
def ExactP (r:Int × List Qn) (w:World) (e:Ending) (w':World):Prop :=
 ∃ vo,e=.returned (.tuple #[vo,.int .i64 r.1])∧Rd w' 66 vo r.2.length (cellsQ r.2)∧(∀ q,vo.ownBlock=some q→w.heap.size≤q)∧Below w.heap.size w w'
theorem rd_nil (w:World) (size:Nat):Rd w size (.slice none 0 0) 0 []:=⟨by simp,by omega,none,0,rfl,fun h=>absurd h (by omega)⟩
theorem cellN {w:World} {g k o:Nat} {ops:List Nat} (h:At w g 0 (cellsN ops)) (hk:ops[k]?=some o):w.cell? ⟨g,k,none⟩=some (.int .i64 (o:Int)):=by
 have:=h.range k (.int .i64 (o:Int)) (by unfold cellsN;rw [List.getElem?_map,hk];rfl)
 rwa [Nat.zero_add] at this
theorem cellB {w:World} {g k:Nat} {cb:List Value} {v:Value} (h:At w g 0 cb) (hk:cb[k]?=some v):w.cell? ⟨g,k,none⟩=some v:=by
 have:=h.range k v hk
 rwa [Nat.zero_add] at this
theorem iZ_nat (n:Nat):iZ (n:Int)=.bool false::lv 32 n:=by unfold iZ;rw [Int.natAbs_natCast,decide_eq_false (by omega)]
theorem Tryz.infoR66:(Tryz.prog.info? 27).map (fun i=>(i.zero,i.size,i.bytes))=some (some (.agg Tryz.zeroCells27),66,264):=by kernel_rfl
theorem Tryz.infoRs:(Tryz.prog.info? 27).map (·.size)=some 66:=by kernel_rfl
theorem oneR' {cr:List Value} {n m:Bool} {p q:Nat} (h:cr=rat n p m q):∀ u∈cr,u.oneCell'=true:=fun u hu=>by
 have:=oneR h
 exact (Array.all_eq_true_iff_forall_mem.1 this) u (by simpa using hu)
theorem At.grown {w w':World} {b o:Nat} {cs:List Value} {row:Option Nat} (h:At w b o cs) (hg:w.grownBy w' row) (hq:∀ q,row=some q→q≠b):At w' b o cs:=by
 have hk:=hg.block b h.lt (fun e=>hq b e.symm rfl)
 refine ⟨fun j v hj=>?_,fun j hj=>?_,Nat.lt_of_lt_of_le h.lt hg.size⟩
 ·rw [World.cell?_of_block (w:=w) hk];exact h.range j v hj
 ·rw [World.cell?_of_block (w:=w) hk,World.frozen?_of_block (w:=w) hk];exact h.there j hj
theorem Tryz.infoI33:(Tryz.prog.info? 25).map (·.size)=some 33:=by kernel_rfl
theorem abs_lt {z:Int} {k:Nat} (h:z.natAbs<BB^k) (hk:k≤32):z.natAbs<BB^32:=bp_up h hk
theorem abs_bp {a b:Int} {i j:Nat} (ha:a.natAbs<BB^i) (hb:b.natAbs<BB^j):(a*b).natAbs<BB^(i+j):=by rw [Int.natAbs_mul];exact bp_mul ha hb
structure ExB (c:Qn) (M o:Nat) (y:Int):Prop where
 n:c.1.natAbs<BB^15
 d:((c.2:Nat):Int).natAbs<BB^15
 m:((M:Nat):Int).natAbs<BB^2
 o:((o:Nat):Int).natAbs<BB^2
 y:y.natAbs<BB^2
 pos:c.2*M≠0
theorem ExB.num {c:Qn} {M o:Nat} {y:Int} (h:ExB c M o y):(c.1*(o:Int)+y*(c.2:Int)*(M:Int)).natAbs<BB^32:=by
 have h1:=bp_up (abs_bp h.n h.o) (show 15+2≤30 by omega)
 have h2:=bp_up (abs_bp (abs_bp h.y h.d) h.m) (show 2+15+2≤30 by omega)
 have h3:=two30
 omega
theorem ExB.den {c:Qn} {M o:Nat} {y:Int} (h:ExB c M o y):c.2*M<BB^32:=by
 have:=bp_up (abs_bp h.d h.m) (show 15+2≤32 by omega)
 rwa [←Int.natCast_mul,Int.natAbs_natCast] at this
theorem exact_any {ct:List Value} (t:Qn) (l:List Bk) (v:Value) (w:World) (h:BksAt w v l) (hC:checkB l=true) (hV:VQ t) (hct:ct=ratZ t.1 t.2) :
  Calls Tryz.prog 9 #[.agg ct.toArray,v] w (ExactP (exactR t l) w):=by
 have hO:=check_oks hC
 have hS:=sumO_bd hO
 have hT:=ownS_le hO
 have HCK:=hid (fun W (h:BksAt W v l)=>show Calls Tryz.prog 12 #[v] W (fun e w'=>e=.returned (.int .i64 0)∧Below W.heap.size W w') by have:=acheck_any v l W h;rw [hC] at this;exact this)
 have HSU:=hid (fun W (h:BksAt W v l)=>sums_any v l W h hO)
 have HEX:=hid (exactR.eq_1 t l)
 have V_ct:=hid hct
 have HVT:=hid hV
 have HBK:=hid h
 obtain ⟨hl1,hl4⟩:=hO.len
 obtain ⟨n,hnn⟩:∃ n,n=l.length:=⟨_,rfl⟩
 have HN:=hid hnn
 rw [←hnn] at hl1 hl4
 have HOK:=hid hO.all
 obtain ⟨S,hSS⟩:∃ S,S=sumO l:=⟨_,rfl⟩
 obtain ⟨T,hTT⟩:∃ T,T=ownS l:=⟨_,rfl⟩
 have HST:=hid (And.intro hSS hTT)
 rw [←hSS] at hS
 rw [←hTT] at hT
 obtain ⟨z,hz⟩:∃ z,z=(S:Int)+T:=⟨_,rfl⟩
 have HZV:=hid (show VQ (z,1) from vq_whole (by omega) (by omega))
 have wz:IntKind.i64.wrap ((S:Int)+T)=z:=by rw [IntWalk.i64_in _ (by omega)];exact hz.symm
 have hz':(S:Int)+T=z:=hz.symm
 have hzb:-8000000000000000≤z∧z≤8000000000000000:=by omega
 have HZ:=hid hz
 obtain ⟨A,cap,hv⟩:=Rd.form h
 have HVV:=hid hv
 clear hC hct hV h hO hnn hSS hTT hz hv
 obtain ⟨cw,V_cw⟩:∃ c:List Value,Hid (c=ratZ z 1):=⟨_,hid rfl⟩
 have HWH:=hid (pwholeZ V_cw.out (by omega) (by omega))
 obtain ⟨B0,hB0⟩:∃ B,B=w.heap.size:=⟨_,rfl⟩
 obtain ⟨w0,hw0⟩:∃ w0,w0=(w.alloc (.cells ct.toArray 27)):=⟨_,rfl⟩
 have AB0:=hid (show At w0 B0 0 ct by rw [hw0];exact (show At (w.alloc (.cells ct.toArray 27)) B0 0 ct from At.fresh _ ct _ (by simp [hB0])))
 have FR:=hid (show Fr B0 w w0 by rw [hw0,hB0];exact (Fr.start w).alloc _)
 have FR0:=hid FR.out.le
 have hZB0:B0≤B0:=Nat.le_refl _
 have HB0:=hid hB0
 go_enter Tryz.func9,Tryz.ntmps9
 go_upto_region 1 with fail
 rw [←hw0,←hB0]
 clear hw0 hB0
 have HFB:=hid (show ∀ W,Fr B0 w W→BksAt W v l from fun W hF=>HBK.out.below (by have:=hF.below;rwa [HB0.out] at this))
 go_upto_region 4 with (go_at_call 12;refine (HCK.out _ (HFB.out _ FR.out)).mono ?_;rintro e wa ⟨rfl,hb⟩;replace AB0:=hid (AB0.out.below hb);replace FR:=hid (FR.out.step hb);clear hb)
 replace FR0:=hid FR.out.le
 have HPV:=hid (pvalidQ V_ct.out HVT.out)
 refine wfn [] [(27,.agg ct.toArray),(28,.bool true),(29,.bool false)] _ (by simp only [zz4,zz5,zq];rfl) (by kernel_rfl) (by kernel_rfl) rfl ?_ ?_ ?_ ?_
 ·intro W' hW'
  have rd0:=AB0.out.below hW'
  refine fxo (wlg (by rfl) rfl rfl rd0 Tryz.underlying27 rfl (qR V_ct.out) (wqn (by simp only [zq]))) ?_
  refine fxo ?_ ?_;(go_big_quiet_step ((go_at_call 35;exact Calls.below_of (HPV.out _)));(try simp only [zq]);exact wqn rfl)
  refine fxo ?_ ?_;(go_big_quiet_step (fail);(try simp only [zq]);exact wqn rfl)
  exact fxn
 ·exact oN
 ·exact oN
 intro β wx1 E
 replace FR:=hid (FR.out.fnw E rfl)
 replace AB0:=hid (AB0.out.fnw E rfl)
 have hE:=E.below rfl
 simp only [nP,zr,zq]
 replace FR0:=hid FR.out.le
 clear E
 go_upto_region 7 with (go_at_call 30;refine (HSU.out _ (HFB.out _ FR.out)).mono ?_;rintro e wb ⟨vo,rfl,hown,hb⟩;replace AB0:=hid (AB0.out.below hb);replace FR:=hid (FR.out.step hb);clear hb;have hST:=HST.out;unfold sumO at hST;rw [←hST.1,←hST.2];clear hST;have HOW:=hid hown;clear hown)
 replace FR0:=hid FR.out.le
 obtain ⟨og,ocap,rfl⟩:∃ g cap,vo=.slice (some ⟨g,0,none⟩) n cap:=by
  rcases HOW.out.2 with ⟨_,h2⟩|⟨g,cap,cur,h2,_⟩
  ·have:=HN.out;omega
  ·exact ⟨g,cap,by rw [h2,HN.out]⟩
 have AOG:=hid (At.of_own (by have:=HOW.out;rw [←HN.out] at this;exact this))
 clear HOW
 cases hsub:subQ t (z,1) with
 | none =>
  have HSB:=hid (fun (cR:List Value) (code:Int) (hR:cR=rat false 0 false 0) (hc:code=10)=>psubQ (a:=t) (b:=(z,1)) (cR:=cR) (code:=code) V_ct.out V_cw.out HVT.out HZV.out (by rw [hsub];exact hR) (by rw [hsub];exact hc))
  have HR:=hid (show exactR t l=(if S=0 then 211 else 10,[]) by rw [HEX.out,←HST.out.1,←HST.out.2,←HZ.out,hsub])
  clear hsub
  obtain ⟨cc,V_cc⟩:∃ c:List Value,Hid (c=rat false 0 false 0):=⟨_,hid rfl⟩
  refine wfn [⟨true,9,10,10,0,0,27,43,cc,0,cc,[]⟩] [(37,.agg ct.toArray),(38,.int .i64 (S:Int)),(39,.int .i64 T),(40,.int .i64 z),(41,.agg cw.toArray),(42,.tuple #[.agg cc.toArray,.int .i64 10]),(36,.tuple #[.agg cc.toArray,.int .i64 10]),(43,.agg cc.toArray),(44,.int .i64 10),(11,.int .i64 10)] _ (by simp only [zz4,zz5,zq];rfl) (by kernel_rfl) (by kernel_rfl) rfl ?_ ?_ ?_ ?_
  ·intro W' hW'
   have rd0:=AB0.out.below hW'
   refine fxo (wlg (by rfl) rfl rfl rd0 Tryz.underlying27 rfl (qR V_ct.out) (wqn (by simp only [zq]))) ?_
   iterate 3 (refine fxo ?_ ?_;(go_big_quiet_step (fail);(try simp only [zq]);exact wqn rfl))
   refine fxo ?_ ?_;(go_big_quiet_step ((go_at_call 37;exact Calls.below_of (HWH.out _)));(try simp only [zq]);exact wqn rfl)
   refine fxo ?_ ?_;(go_big_quiet_step ((go_at_call 36;exact Calls.below_of (HSB.out _ _ V_cc.out rfl _)));(try simp only [zq]);exact wqn rfl)
   iterate 3 (refine fxo ?_ ?_;(go_big_quiet_step (fail);(try simp only [zq]);exact wqn rfl))
   iterate 2 (refine fxs (by rfl) ?_)
   refine fxo ?_ ?_;(go_big_quiet_step (fail);(try simp only [zq]);exact wqn rfl)
   exact fxn
  ·exact oP _ _ (Tryz.alR (qR V_cc.out)) (oN)
  ·exact oP _ _ (stw rfl (qR V_cc.out) (oneR V_cc.out) (fun _=>rfl)) (oN)
  intro β wx2 E
  replace FR:=hid (FR.out.fnw E rfl)
  obtain ⟨b10,hb10⟩:∃ b,b=β 9:=⟨_,rfl⟩
  have eb10:=E.atNew mms rfl
  simp only at eb10
  rw [←hb10] at eb10
  have lB0_b10:B0<b10:=by have h1:=eb10.1;have h2:=AB0.out.lt;omega
  have log_b10:og<b10:=by have h1:=eb10.1;have h2:=AOG.out.lt;omega
  have hZb10:B0≤b10:=by have h1:=eb10.1;have h2:=FR0.out;omega
  replace AB0:=hid (AB0.out.fnw E rfl)
  replace AOG:=hid (AOG.out.fnw E rfl)
  have Ab10:=hid eb10.2
  simp only [nP,zr,zq]
  rw [←hb10]
  replace FR0:=hid FR.out.le
  clear E eb10 hb10
  by_cases hS0:S=0
  ·subst hS0
   have HR2:=hid (show exactR t l=(211,[]) by rw [HR.out];rfl)
   go_upto_region 9 with fail
   go_wp2_with fail
   go_ret2
   show ExactP (exactR t l) _ _ _
   rw [HR2.out]
   refine ⟨.slice none 0 0,(by rfl),?_,fun q hq=>(by cases hq),by have:=FR.out.below;rwa [HB0.out] at this⟩
   exact rd_nil _ _
  ·have HR2:=hid (show exactR t l=(10,[]) by rw [HR.out,if_neg hS0])
   have hS0':((S:Int)==0)=false:=beq_eq_false_iff_ne.2 (by omega)
   go_upto_region 11 with fail
   go_wp2_with fail
   go_ret2
   show ExactP (exactR t l) _ _ _
   rw [HR2.out]
   refine ⟨.slice none 0 0,(by rfl),?_,fun q hq=>(by cases hq),by have:=FR.out.below;rwa [HB0.out] at this⟩
   exact rd_nil _ _
 | some c =>
  have HSB:=hid (fun (cR:List Value) (code:Int) (hR:cR=ratZ c.1 c.2) (hc:code=0)=>psubQ (a:=t) (b:=(z,1)) (cR:=cR) (code:=code) V_ct.out V_cw.out HVT.out HZV.out (by rw [hsub];exact hR) (by rw [hsub];exact hc))
  have HR:=hid (show exactR t l=if S=0∧c.1≠0 then ((211:Int),[]) else match exL c S l with
   | none=>(10,[])
   | some rs=>(0,rs) by rw [HEX.out,←HST.out.1,←HST.out.2,←HZ.out,hsub])
  have HVC:=hid (show VQ c from mkQ_valid (Nat.mul_ne_zero HVT.out.pos (by simp)) hsub)
  clear hsub
  obtain ⟨cc,V_cc⟩:∃ c':List Value,Hid (c'=ratZ c.1 c.2):=⟨_,hid rfl⟩
  obtain ⟨cn,V_cn⟩:∃ c':List Value,Hid (c'=iZ c.1):=⟨_,hid rfl⟩
  obtain ⟨cd,V_cd⟩:∃ c':List Value,Hid (c'=.bool false::lv 32 c.2):=⟨_,hid rfl⟩
  have HDZ:=hid (show cd=iZ (c.2:Int) by rw [V_cd.out,iZ_nat])
  refine wfn [⟨true,9,10,10,0,0,27,43,cc,0,cc,[]⟩] [(37,.agg ct.toArray),(38,.int .i64 (S:Int)),(39,.int .i64 T),(40,.int .i64 z),(41,.agg cw.toArray),(42,.tuple #[.agg cc.toArray,.int .i64 0]),(36,.tuple #[.agg cc.toArray,.int .i64 0]),(43,.agg cc.toArray),(44,.int .i64 0),(11,.int .i64 0)] _ (by simp only [zz4,zz5,zq];rfl) (by kernel_rfl) (by kernel_rfl) rfl ?_ ?_ ?_ ?_
  ·intro W' hW'
   have rd0:=AB0.out.below hW'
   refine fxo (wlg (by rfl) rfl rfl rd0 Tryz.underlying27 rfl (qR V_ct.out) (wqn (by simp only [zq]))) ?_
   iterate 3 (refine fxo ?_ ?_;(go_big_quiet_step (fail);(try simp only [zq]);exact wqn rfl))
   refine fxo ?_ ?_;(go_big_quiet_step ((go_at_call 37;exact Calls.below_of (HWH.out _)));(try simp only [zq]);exact wqn rfl)
   refine fxo ?_ ?_;(go_big_quiet_step ((go_at_call 36;exact Calls.below_of (HSB.out _ _ V_cc.out rfl _)));(try simp only [zq]);exact wqn rfl)
   iterate 3 (refine fxo ?_ ?_;(go_big_quiet_step (fail);(try simp only [zq]);exact wqn rfl))
   iterate 2 (refine fxs (by rfl) ?_)
   refine fxo ?_ ?_;(go_big_quiet_step (fail);(try simp only [zq]);exact wqn rfl)
   exact fxn
  ·exact oP _ _ (Tryz.alR (qR V_cc.out)) (oN)
  ·exact oP _ _ (stw rfl (qR V_cc.out) (oneR V_cc.out) (fun _=>rfl)) (oN)
  intro β wx2 E
  replace FR:=hid (FR.out.fnw E rfl)
  obtain ⟨b10,hb10⟩:∃ b,b=β 9:=⟨_,rfl⟩
  have eb10:=E.atNew mms rfl
  simp only at eb10
  rw [←hb10] at eb10
  have lB0_b10:B0<b10:=by have h1:=eb10.1;have h2:=AB0.out.lt;omega
  have log_b10:og<b10:=by have h1:=eb10.1;have h2:=AOG.out.lt;omega
  have hZb10:B0≤b10:=by have h1:=eb10.1;have h2:=FR0.out;omega
  replace AB0:=hid (AB0.out.fnw E rfl)
  replace AOG:=hid (AOG.out.fnw E rfl)
  have Ab10:=hid eb10.2
  simp only [nP,zr,zq]
  rw [←hb10]
  replace FR0:=hid FR.out.le
  clear E eb10 hb10
  have Ab10_n:=hid (Ab10.out.num V_cc.out V_cn.out)
  have Ab10_d:=hid (Ab10.out.den V_cc.out V_cd.out)
  obtain ⟨sg,hsg⟩:∃ x,x=c.1.sign:=⟨_,rfl⟩
  have HSG:=hid (show ∀ W,Calls Tryz.prog 38 #[.agg cn.toArray] W fun e w'=>e=.returned (.int .i64 sg)∧Below W.heap.size W w' from fun W=>by rw [hsg];exact psignZ V_cn.out (b480_bb HVC.out.num) W)
  by_cases hbad:S=0∧c.1≠0
  ·have HR2:=hid (show exactR t l=(211,[]) by rw [HR.out,if_pos hbad])
   have hsg0:(sg != 0)=true:=by rw [bne_iff_ne,hsg];intro h;exact hbad.2 (Int.sign_eq_zero_iff_zero.1 h)
   obtain ⟨h0,_⟩:=hbad
   subst h0
   clear hsg
   go_upto_region 8 with fail
   refine wfn [] [(45,.int .i64 0),(46,.bool true),(47,.bool true),(48,.int .i64 0),(49,.bool false),(50,.bool false),(51,.pointer (some ⟨b10,0,none⟩)),(52,.agg cn.toArray),(53,.int .i64 sg),(54,.bool true),(55,.bool true),(56,.bool true)] _ (by simp only [zz4,zz5,zq];rfl) (by kernel_rfl) (by kernel_rfl) rfl ?_ ?_ ?_ ?_
   ·intro W' hW'
    have rd0:=Ab10_n.out.below hW'
    iterate 7 (refine fxo ?_ ?_;(go_big_quiet_step (fail);(try simp only [zq]);exact wqn rfl))
    refine fxo (wlg (by rfl) rfl rfl rd0 Tryz.underlying25 rfl (qI V_cn.out) (wqn (by simp only [zq]))) ?_
    refine fxo ?_ ?_;(go_big_quiet_step ((go_at_call 38;exact Calls.below_of (HSG.out _)));(try simp only [zq]);exact wqn rfl)
    iterate 3 (refine fxo ?_ ?_;(go_big_quiet_step (fail);(try simp only [zq]);exact wqn rfl))
    exact fxn
   ·exact oN
   ·exact oN
   intro β wx3 E
   replace FR:=hid (FR.out.fnw E rfl)
   replace AB0:=hid (AB0.out.fnw E rfl)
   replace AOG:=hid (AOG.out.fnw E rfl)
   replace Ab10:=hid (Ab10.out.fnw E rfl)
   replace Ab10_n:=hid (Ab10_n.out.fnw E rfl)
   replace Ab10_d:=hid (Ab10_d.out.fnw E rfl)
   have hE:=E.below rfl
   simp only [nP,zr,zq]
   replace FR0:=hid FR.out.le
   clear E
   go_upto_region 9 with fail
   go_wp2_with fail
   go_ret2
   show ExactP (exactR t l) _ _ _
   rw [HR2.out]
   refine ⟨.slice none 0 0,(by rfl),?_,fun q hq=>(by cases hq),by have:=FR.out.below;rwa [HB0.out] at this⟩
   exact rd_nil _ _
  ·have HR2:=hid (show exactR t l=match exL c S l with
    | none=>(10,[])
    | some rs=>(0,rs) by rw [HR.out,if_neg hbad])
   clear HR
   obtain ⟨M,hM⟩:∃ M,M=max S 1:=⟨_,rfl⟩
   have hMb:1≤M∧M≤4000000000000000:=by omega
   have hMI:max (S:Int) 1=(M:Int):=by omega
   have HM:=hid hM
   clear hM
   go_upto_region 8 with fail
   go_cut [56] from 45 to 56 (fun t wx=>t=.bool false∧At wx b10 0 cc∧At wx og 0 (cellsN (l.map Bk.op))∧Fr B0 w wx)
   case first =>
    by_cases hS0:S=0
    ·have hc0:c.1=0:=by
      by_cases h:c.1=0
      ·exact h
      ·exact absurd ⟨hS0,h⟩ hbad
     have hsg0:(sg != 0)=false:=by rw [hsg,hc0];rfl
     subst hS0
     clear hbad hsg hc0
     refine wfn [] [(45,.int .i64 0),(46,.bool true),(47,.bool true),(48,.int .i64 0),(49,.bool false),(50,.bool false),(51,.pointer (some ⟨b10,0,none⟩)),(52,.agg cn.toArray),(53,.int .i64 sg),(54,.bool false),(55,.bool false),(56,.bool false)] _ (by simp only [zz4,zz5,zq];rfl) (by kernel_rfl) (by kernel_rfl) rfl ?_ ?_ ?_ ?_
     ·intro W' hW'
      have rd0:=Ab10_n.out.below hW'
      iterate 7 (refine fxo ?_ ?_;(go_big_quiet_step (fail);(try simp only [zq]);exact wqn rfl))
      refine fxo (wlg (by rfl) rfl rfl rd0 Tryz.underlying25 rfl (qI V_cn.out) (wqn (by simp only [zq]))) ?_
      refine fxo ?_ ?_;(go_big_quiet_step ((go_at_call 38;exact Calls.below_of (HSG.out _)));(try simp only [zq]);exact wqn rfl)
      iterate 3 (refine fxo ?_ ?_;(go_big_quiet_step (fail);(try simp only [zq]);exact wqn rfl))
      exact fxn
     ·exact oN
     ·exact oN
     intro β wx3 E
     replace FR:=hid (FR.out.fnw E rfl)
     replace AB0:=hid (AB0.out.fnw E rfl)
     replace AOG:=hid (AOG.out.fnw E rfl)
     replace Ab10:=hid (Ab10.out.fnw E rfl)
     replace Ab10_n:=hid (Ab10_n.out.fnw E rfl)
     replace Ab10_d:=hid (Ab10_d.out.fnw E rfl)
     have hE:=E.below rfl
     simp only [nP,zr,zq]
     replace FR0:=hid FR.out.le
     clear E
     go_wp2_with fail
     go_meet
     exact ⟨rfl,Ab10.out,AOG.out,FR.out⟩
    ·have hS0':((S:Int)==0)=false:=beq_eq_false_iff_ne.2 (by omega)
     clear hbad hsg
     refine wfn [] [(45,.int .i64 (S:Int)),(46,.bool false),(47,.bool false),(48,undef),(49,undef),(50,undef),(51,undef),(52,undef),(53,undef),(54,undef),(55,undef),(56,.bool false)] _ (by simp only [zz4,zz5,zq];rfl) (by kernel_rfl) (by kernel_rfl) rfl ?_ ?_ ?_ ?_
     ·intro W' hW'
      iterate 12 (refine fxo ?_ ?_;(go_big_quiet_step (fail);(try simp only [zq]);exact wqn rfl))
      exact fxn
     ·exact oN
     ·exact oN
     intro β wx3 E
     replace FR:=hid (FR.out.fnw E rfl)
     replace AB0:=hid (AB0.out.fnw E rfl)
     replace AOG:=hid (AOG.out.fnw E rfl)
     replace Ab10:=hid (Ab10.out.fnw E rfl)
     replace Ab10_n:=hid (Ab10_n.out.fnw E rfl)
     replace Ab10_d:=hid (Ab10_d.out.fnw E rfl)
     have hE:=E.below rfl
     simp only [nP,zr,zq]
     replace FR0:=hid FR.out.le
     clear E
     go_wp2_with fail
     go_meet
     exact ⟨rfl,Ab10.out,AOG.out,FR.out⟩
   case rest =>
    obtain ⟨rfl,h10,hog,hF⟩:=hcut
    clear Ab10 Ab10_n Ab10_d AOG FR FR0 AB0 hbad hsg HSG
    have hv:=HVV.out
    rw [←HN.out] at hv
    subst hv
    obtain ⟨BL,hBL⟩:∃ B,B=wc.heap.size:=⟨_,rfl⟩
    have lb10:b10<BL:=by rw [hBL];exact h10.lt
    have log:og<BL:=by rw [hBL];exact hog.lt
    have hZBL:B0≤BL:=by rw [hBL];exact hF.le
    have hBLw:BL≤wc.heap.size:=by omega
    clear hBL
    go_wp2
    go_loopg [12,62] n (fun m vo iv wr=>∃ (k:Nat) (rs:List Qn),k≤n∧n - k≤m∧iv=.int .i64 (k:Int)∧exL c S (l.take k)=some rs∧wr.ownsRow BL 27 66 vo k (cellsQ rs)∧At wr b10 0 cc∧At wr og 0 (cellsN (l.map Bk.op))∧Fr B0 w wr∧BL≤wr.heap.size)
    case atStart=>exact ⟨0,[],by omega,by omega,rfl,rfl,⟨by simp [cellsQ],.inl ⟨rfl,rfl⟩⟩,h10,hog,hF,hBLw⟩
    case round =>
     clear h10 hog hF hBLw
     obtain ⟨k,rs,hk,hm,rfl,hrs,hown,h10,hog,hF,hBLr⟩:=hrel
     have HRS:=hid hrs
     have HOW:=hid hown
     have Ab10:=hid h10
     have AOG:=hid hog
     have FR:=hid hF
     have FR0:=hid hF.le
     clear hrs hown h10 hog hF
     by_cases hlt:k<n
     ·obtain ⟨x,hx⟩:∃ x,l[k]?=some x:=⟨l[k]'(by rw [←HN.out];exact hlt),by simp [←HN.out,hlt]⟩
      have hok:=HOK.out x (List.mem_of_getElem? hx)
      have hop:=hok.op_eq
      have hopl:=hok.op_le
      have hxo:=hok.own
      obtain ⟨o,ho⟩:∃ o,o=x.op:=⟨_,rfl⟩
      rw [←ho] at hop hopl
      obtain ⟨y,hy⟩:∃ y,y=(o:Int)+x.own:=⟨_,rfl⟩
      have wy:IntKind.i64.wrap ((o:Int)+x.own)=y:=by rw [IntWalk.i64_in _ (by omega)];exact hy.symm
      have hy':(o:Int)+x.own=y:=hy.symm
      have hyb:-2000000000000000≤y∧y≤2000000000000000:=by omega
      have HBD:=hid (show ExB c M o y from ⟨HVC.out.num,by rw [Int.natAbs_natCast];exact HVC.out.den,big_small (by omega) (by omega),big_small (by omega) (by omega),big_small (by omega) (by omega),Nat.mul_ne_zero HVC.out.pos (by omega)⟩)
      have HX:=hid hx
      have HXO:=hid (show (l.map Bk.op)[k]?=some o by rw [List.getElem?_map,hx,ho];rfl)
      have HER:=hid (show exR c S x=mkQ (c.1*(o:Int)+y*(c.2:Int)*(M:Int)) (c.2*M) by unfold exR;rw [hy,ho,HM.out])
      obtain ⟨q0,q1,hv0,hcB⟩:∃ g off,A=some ⟨g,off,none⟩∧∀ k x,l[k]?=some x→CellsAt wr g (off+k*5) x:=by
       obtain ⟨g,off,cap2,h1,h2⟩:=bks_some (HFB.out _ FR.out) (by have:=HN.out;omega)
       refine ⟨g,off,?_,h2⟩
       injection h1
      obtain ⟨c0,c1,c2,c3,c4⟩:=hcB k x hx
      clear hcB hx hok ho hy
      subst hv0
      obtain ⟨cb,V_cb⟩:∃ c:List Value,Hid (c=x.cells):=⟨_,hid rfl⟩
      go_upto_region 16 with fail
      obtain ⟨X,hX⟩:∃ X,X=wr.heap.size:=⟨_,rfl⟩
      obtain ⟨W1,hW1⟩:∃ W1,W1=wr.alloc (.cells #[.string x.name,.int .i64 x.net,.int .i64 x.flows,.int .i64 x.own,.int .i64 x.units] 47):=⟨_,rfl⟩
      have hbW:Below wr.heap.size wr W1:=by rw [hW1];exact (Below.refl _ _).alloc (Nat.le_refl _) _
      have AX:=hid (show At W1 X 0 cb by rw [hW1,hX,V_cb.out];exact At.fresh wr x.cells _ rfl)
      replace Ab10:=hid (Ab10.out.below hbW)
      replace AOG:=hid (AOG.out.below hbW)
      replace FR:=hid (FR.out.step hbW)
      replace FR0:=hid FR.out.le
      replace HOW:=hid (ownsRow_below HOW.out hbW)
      rw [←hW1,←hX]
      have hBL1:BL≤W1.heap.size:=Nat.le_trans hBLr hbW.size
      have FW:=hid (Fr.start W1)
      clear hbW hW1 c0 c1 c2 c3 c4
      clear hX
      obtain ⟨cM,V_cM⟩:∃ c1:List Value,Hid (c1=iZ (M:Int)):=⟨_,hid rfl⟩
      obtain ⟨co,V_co⟩:∃ c1:List Value,Hid (c1=iZ (o:Int)):=⟨_,hid rfl⟩
      obtain ⟨cp,V_cp⟩:∃ c1:List Value,Hid (c1=iZ (c.1*(o:Int))):=⟨_,hid rfl⟩
      obtain ⟨cy,V_cy⟩:∃ c1:List Value,Hid (c1=iZ y):=⟨_,hid rfl⟩
      obtain ⟨cs,V_cs⟩:∃ c1:List Value,Hid (c1=iZ (y*(c.2:Int)*(M:Int))):=⟨_,hid rfl⟩
      obtain ⟨cu,V_cu⟩:∃ c1:List Value,Hid (c1=iZ (c.1*(o:Int)+y*(c.2:Int)*(M:Int))):=⟨_,hid rfl⟩
      obtain ⟨ce,V_ce⟩:∃ c1:List Value,Hid (c1=iZ ((c.2:Int)*(M:Int))):=⟨_,hid rfl⟩
      have HFM:=hid (pfromZ V_cM.out (by omega) (by omega))
      have HFO:=hid (pfromZ V_co.out (by omega) (by omega))
      have HFY:=hid (pfromZ V_cy.out (by omega) (by omega))
      have HPP:=hid (fun (W:World) (b:Nat) (hA:At W b 0 (cn++co))=>prod_two V_cn.out V_co.out V_cp.out (abs_lt HBD.out.n (by omega)) (abs_lt HBD.out.o (by omega)) (abs_lt (abs_bp HBD.out.n HBD.out.o) (by omega)) W hA)
      have HPS:=hid (fun (W:World) (b:Nat) (hA:At W b 0 (cy++(cd++cM)))=>prod_three V_cy.out HDZ.out V_cM.out V_cs.out (abs_lt HBD.out.y (by omega)) (abs_lt HBD.out.d (by omega)) (abs_lt HBD.out.m (by omega)) (abs_lt (abs_bp HBD.out.y HBD.out.d) (by omega)) (abs_lt (abs_bp (abs_bp HBD.out.y HBD.out.d) HBD.out.m) (by omega)) W hA)
      have HPE:=hid (fun (W:World) (b:Nat) (hA:At W b 0 (cd++cM))=>prod_two HDZ.out V_cM.out V_ce.out (abs_lt HBD.out.d (by omega)) (abs_lt HBD.out.m (by omega)) (abs_lt (abs_bp HBD.out.d HBD.out.m) (by omega)) W hA)
      have HAD:=hid (paddZ V_cp.out V_cs.out V_cu.out (abs_lt (abs_bp HBD.out.n HBD.out.o) (by omega)) (abs_lt (abs_bp (abs_bp HBD.out.y HBD.out.d) HBD.out.m) (by omega)) HBD.out.num)
      have HCE:=hid (show ce=iZ ((c.2*M:Nat):Int) by rw [V_ce.out,Int.natCast_mul])
      have V_cd2:=hid HDZ.out
      refine wfn [⟨true,3,15,4,0,0,25,69,cM,0,cM,[]⟩] [(67,.int .i64 (S:Int)),(68,.int .i64 (M:Int)),(69,.agg cM.toArray)] _ (by simp only [zz4,zz5,zq];rfl) (by kernel_rfl) (by kernel_rfl) rfl ?_ ?_ ?_ ?_
      ·intro W' hW'
       iterate 2 (refine fxo ?_ ?_;(go_big_quiet_step (fail);(try simp only [zq]);exact wqn rfl))
       refine fxo ?_ ?_;(go_big_quiet_step ((go_at_call 39;exact Calls.below_of (HFM.out _)));(try simp only [zq]);exact wqn rfl)
       iterate 2 (refine fxs (by rfl) ?_)
       exact fxn
      ·exact oP _ _ (Tryz.alI (qI V_cM.out)) (oN)
      ·exact oP _ _ (stw rfl (qI V_cM.out) (oneI V_cM.out) (fun _=>rfl)) (oN)
      intro β wx1 E
      replace FR:=hid (FR.out.fnw E rfl)
      replace FW:=hid (FW.out.fnw E rfl)
      obtain ⟨b15,hb15⟩:∃ b,b=β 3:=⟨_,rfl⟩
      have eb15:=E.atNew mms rfl
      simp only at eb15
      rw [←hb15] at eb15
      have lb10_b15:b10<b15:=by have h1:=eb15.1;have h2:=Ab10.out.lt;omega
      have log_b15:og<b15:=by have h1:=eb15.1;have h2:=AOG.out.lt;omega
      have lX_b15:X<b15:=by have h1:=eb15.1;have h2:=AX.out.lt;omega
      have hZb15:B0≤b15:=by have h1:=eb15.1;have h2:=FR0.out;omega
      replace Ab10:=hid (Ab10.out.fnw E rfl)
      replace AOG:=hid (AOG.out.fnw E rfl)
      replace AX:=hid (AX.out.fnw E rfl)
      have Ab15:=hid eb15.2
      simp only [nP,zr,zq]
      rw [←hb15]
      replace FR0:=hid FR.out.le
      clear E eb15 hb15
      have Ab10_n:=hid (Ab10.out.num V_cc.out V_cn.out)
      have Ab10_d:=hid (Ab10.out.den V_cc.out V_cd.out)
      go_upto_region 17 with fail
      refine wp_flowH 11 [7] (fun _=>SlAt 2 (List.flatten [cn,co])) (fun _=>ftSl) [⟨true,9,16,10,0,0,25,78,cp,0,cp,[]⟩] [⟨70,[],fun _=>.pointer (some ⟨b10,0,none⟩)⟩,⟨71,[],fun _=>.agg cn.toArray⟩,⟨72,[],fun _=>.slice (some ⟨og,0,none⟩) n ocap⟩,⟨73,[],fun _=>.int .i64 (k:Int)⟩,⟨74,[],fun _=>.pointer (some ⟨og,k,none⟩)⟩,⟨75,[],fun _=>.int .i64 (o:Int)⟩,⟨76,[],fun _=>.agg co.toArray⟩,⟨77,[7],fun l=>l.getD 0 undef⟩,⟨78,[],fun _=>.agg cp.toArray⟩] _ (by simp only [List.take_succ_cons,List.take_zero,List.take_nil];rfl) (by simp only [List.drop_succ_cons,List.drop_zero,List.drop_nil];rfl) (by intro γ;simp only [finG,List.foldl_cons,List.foldl_nil,List.map_cons,List.map_nil,List.getD_cons_zero,zq];rfl) (by kernel_rfl) (by kernel_rfl) (by kernel_rfl) (by kernel_rfl) (by kernel_rfl) (ghSl _ _) ?_ ?_ ?_ ?_ ?_ ?_ ?_ ?_ ?_
      ·intro γ W' hW'
       have rd0:=Ab10_n.out.below hW'
       have cl0:=fun d os=>cell_gw (cellN (AOG.out.below hW') HXO.out) d os
       refine fxgo ?_ ?_;(go_big_quiet_step (fail);(try simp only [zq]);exact wqn rfl)
       refine fxgo (wlg (by rfl) rfl rfl rd0 Tryz.underlying25 rfl (qI V_cn.out) (wqn (by simp only [zq]))) ?_
       iterate 4 (refine fxgo ?_ ?_;(go_big_quiet_step (fail);(try simp only [zq]);exact wqn rfl))
       refine fxgo ?_ ?_;(go_big_quiet_step ((go_at_call 39;exact Calls.below_of (HFO.out _)));(try simp only [zq]);exact wqn rfl)
       refine fxgs (by rfl) ?_
       refine flowXG_of 7 (by kernel_rfl) (by kernel_rfl) (fun hf=>?_) ?_;(obtain ⟨gb,hgv,hgA⟩:=hf;rw [hgv];simp only [List.flatten_cons,List.flatten_nil,List.append_nil] at hgA;go_big_quiet_step ((go_at_call 40;exact Calls.below_of (HPP.out _ gb (hgA.below (qbG _ _ _)))));(try simp only [zq]);exact wqn rfl)
       iterate 2 (refine fxgs (by rfl) ?_)
       exact flowXG_nil
      ·intro γ W' hK'
       iterate 11 (refine fxgs (by rfl) ?_)
       exact flowXG_nil
      ·intro γ j hj oj hoj W' hK' hE' _
       obtain rfl:=List.mem_singleton.1 hj
       cases hoj
       exact ⟨rfl,GY.build (len:=2) [cn,co] rfl (by simp [Act.eval]) rfl (by decide) (show 0<33 by decide) (by intro c hc;simp only [List.mem_cons,List.not_mem_nil,or_false] at hc;rcases hc with e|e<;>(rw [e];first|(rw [V_cn.out];simp [iZ,qlL];done)|(rw [V_co.out];simp [iZ,qlL];done))) (by decide) Tryz.underlying107 Tryz.infoI33 (by kernel_rfl)⟩
      ·intro γ j hj oj hoj
       obtain rfl:=List.mem_singleton.1 hj
       cases hoj
       rfl
      ·exact oP _ _ (fun _=>Tryz.alI (qI V_cp.out)) (oN)
      ·exact oP _ _ (fun h=>Bool.noConfusion h) (oN)
      ·exact uno
      ·intro γ
       exact oP _ _ (stw rfl (qI V_cp.out) (oneI V_cp.out) (fun _=>rfl)) (oN)
      intro β γ wx2 E GE
      obtain ⟨g17,hγ,_⟩:=GE.r 7 mms
      refine wpList_nil ?_
      replace FR:=hid (FR.out.flow E (oP _ _ (fun h=>Bool.noConfusion h) (oN)))
      replace FW:=hid (FW.out.flow E (oP _ _ (fun h=>Bool.noConfusion h) (oN)))
      obtain ⟨b16,hb16⟩:∃ b,b=β 9:=⟨_,rfl⟩
      have eb16:=E.atNew mms rfl
      simp only at eb16
      rw [←hb16] at eb16
      have lb10_b16:b10<b16:=by have h1:=eb16.1;have h2:=Ab10.out.lt;omega
      have log_b16:og<b16:=by have h1:=eb16.1;have h2:=AOG.out.lt;omega
      have lX_b16:X<b16:=by have h1:=eb16.1;have h2:=AX.out.lt;omega
      have lb15_b16:b15<b16:=by have h1:=eb16.1;have h2:=Ab15.out.lt;omega
      have hZb16:B0≤b16:=by have h1:=eb16.1;have h2:=FR0.out;omega
      replace Ab10:=hid (At.flow E Ab10.out (oP _ _ (fun h=>Bool.noConfusion h) (oN)))
      replace AOG:=hid (At.flow E AOG.out (oP _ _ (fun h=>Bool.noConfusion h) (oN)))
      replace AX:=hid (At.flow E AX.out (oP _ _ (fun h=>Bool.noConfusion h) (oN)))
      replace Ab15:=hid (At.flow E Ab15.out (oP _ _ (fun h=>Bool.noConfusion h) (oN)))
      replace Ab10_n:=hid (At.flow E Ab10_n.out (oP _ _ (fun h=>Bool.noConfusion h) (oN)))
      replace Ab10_d:=hid (At.flow E Ab10_d.out (oP _ _ (fun h=>Bool.noConfusion h) (oN)))
      have Ab16:=hid eb16.2
      simp only [nP,zr,zq]
      rw [←hb16]
      rw [hγ]
      replace FR0:=hid FR.out.le
      clear E GE hγ eb16 hb16
      go_upto_region 18 with fail
      refine wp_flowH 15 [11] (fun _=>SlAt 3 (List.flatten [cy,cd,cM])) (fun _=>ftSl) [⟨true,13,17,14,0,0,25,91,cs,0,cs,[]⟩] [⟨79,[],fun _=>.slice (some ⟨og,0,none⟩) n ocap⟩,⟨80,[],fun _=>.int .i64 (k:Int)⟩,⟨81,[],fun _=>.pointer (some ⟨og,k,none⟩)⟩,⟨82,[],fun _=>.int .i64 (o:Int)⟩,⟨83,[],fun _=>.pointer (some ⟨X,3,none⟩)⟩,⟨84,[],fun _=>.int .i64 x.own⟩,⟨85,[],fun _=>.int .i64 y⟩,⟨86,[],fun _=>.agg cy.toArray⟩,⟨87,[],fun _=>.pointer (some ⟨b10,33,none⟩)⟩,⟨88,[],fun _=>.agg cd.toArray⟩,⟨89,[],fun _=>.agg cM.toArray⟩,⟨90,[11],fun l=>l.getD 0 undef⟩,⟨91,[],fun _=>.agg cs.toArray⟩] _ (by simp only [List.take_succ_cons,List.take_zero,List.take_nil];rfl) (by simp only [List.drop_succ_cons,List.drop_zero,List.drop_nil];rfl) (by intro γ;simp only [finG,List.foldl_cons,List.foldl_nil,List.map_cons,List.map_nil,List.getD_cons_zero,zq];rfl) (by kernel_rfl) (by kernel_rfl) (by kernel_rfl) (by kernel_rfl) (by kernel_rfl) (ghSl _ _) ?_ ?_ ?_ ?_ ?_ ?_ ?_ ?_ ?_
      ·intro γ W' hW'
       have rd0:=Ab10_d.out.below hW'
       have rd1:=Ab15.out.below hW'
       have cl0:=fun d os=>cell_gw (cellN (AOG.out.below hW') HXO.out) d os
       have cl1:=fun d os=>cell_gw (cellB (k:=3) (v:=.int .i64 x.own) (AX.out.below hW') (by rw [V_cb.out];rfl)) d os
       iterate 7 (refine fxgo ?_ ?_;(go_big_quiet_step (fail);(try simp only [zq]);exact wqn rfl))
       refine fxgo ?_ ?_;(go_big_quiet_step ((go_at_call 39;exact Calls.below_of (HFY.out _)));(try simp only [zq]);exact wqn rfl)
       refine fxgo ?_ ?_;(go_big_quiet_step (fail);(try simp only [zq]);exact wqn rfl)
       refine fxgo (wlg (by rfl) rfl rfl rd0 Tryz.underlying25 rfl (qI V_cd.out) (wqn (by simp only [zq]))) ?_
       refine fxgo (wlg (by rfl) rfl rfl rd1 Tryz.underlying25 rfl (qI V_cM.out) (wqn (by simp only [zq]))) ?_
       refine fxgs (by rfl) ?_
       refine flowXG_of 11 (by kernel_rfl) (by kernel_rfl) (fun hf=>?_) ?_;(obtain ⟨gb,hgv,hgA⟩:=hf;rw [hgv];simp only [List.flatten_cons,List.flatten_nil,List.append_nil] at hgA;go_big_quiet_step ((go_at_call 40;exact Calls.below_of (HPS.out _ gb (hgA.below (qbG _ _ _)))));(try simp only [zq]);exact wqn rfl)
       iterate 2 (refine fxgs (by rfl) ?_)
       exact flowXG_nil
      ·intro γ W' hK'
       iterate 15 (refine fxgs (by rfl) ?_)
       exact flowXG_nil
      ·intro γ j hj oj hoj W' hK' hE' _
       obtain rfl:=List.mem_singleton.1 hj
       cases hoj
       exact ⟨rfl,GY.build (len:=3) [cy,cd,cM] rfl (by simp [Act.eval]) rfl (by decide) (show 0<33 by decide) (by intro c hc;simp only [List.mem_cons,List.not_mem_nil,or_false] at hc;rcases hc with e|e|e<;>(rw [e];first|(rw [V_cy.out];simp [iZ,qlL];done)|(rw [V_cd.out];simp [iZ,qlL];done)|(rw [V_cM.out];simp [iZ,qlL];done))) (by decide) Tryz.underlying107 Tryz.infoI33 (by kernel_rfl)⟩
      ·intro γ j hj oj hoj
       obtain rfl:=List.mem_singleton.1 hj
       cases hoj
       rfl
      ·exact oP _ _ (fun _=>Tryz.alI (qI V_cs.out)) (oN)
      ·exact oP _ _ (fun h=>Bool.noConfusion h) (oN)
      ·exact uno
      ·intro γ
       exact oP _ _ (stw rfl (qI V_cs.out) (oneI V_cs.out) (fun _=>rfl)) (oN)
      intro β γ wx3 E GE
      obtain ⟨g18,hγ,_⟩:=GE.r 11 mms
      refine wpList_nil ?_
      replace FR:=hid (FR.out.flow E (oP _ _ (fun h=>Bool.noConfusion h) (oN)))
      replace FW:=hid (FW.out.flow E (oP _ _ (fun h=>Bool.noConfusion h) (oN)))
      obtain ⟨b17,hb17⟩:∃ b,b=β 13:=⟨_,rfl⟩
      have eb17:=E.atNew mms rfl
      simp only at eb17
      rw [←hb17] at eb17
      have lb10_b17:b10<b17:=by have h1:=eb17.1;have h2:=Ab10.out.lt;omega
      have log_b17:og<b17:=by have h1:=eb17.1;have h2:=AOG.out.lt;omega
      have lX_b17:X<b17:=by have h1:=eb17.1;have h2:=AX.out.lt;omega
      have lb15_b17:b15<b17:=by have h1:=eb17.1;have h2:=Ab15.out.lt;omega
      have lb16_b17:b16<b17:=by have h1:=eb17.1;have h2:=Ab16.out.lt;omega
      have hZb17:B0≤b17:=by have h1:=eb17.1;have h2:=FR0.out;omega
      replace Ab10:=hid (At.flow E Ab10.out (oP _ _ (fun h=>Bool.noConfusion h) (oN)))
      replace AOG:=hid (At.flow E AOG.out (oP _ _ (fun h=>Bool.noConfusion h) (oN)))
      replace AX:=hid (At.flow E AX.out (oP _ _ (fun h=>Bool.noConfusion h) (oN)))
      replace Ab15:=hid (At.flow E Ab15.out (oP _ _ (fun h=>Bool.noConfusion h) (oN)))
      replace Ab10_n:=hid (At.flow E Ab10_n.out (oP _ _ (fun h=>Bool.noConfusion h) (oN)))
      replace Ab10_d:=hid (At.flow E Ab10_d.out (oP _ _ (fun h=>Bool.noConfusion h) (oN)))
      replace Ab16:=hid (At.flow E Ab16.out (oP _ _ (fun h=>Bool.noConfusion h) (oN)))
      have Ab17:=hid eb17.2
      simp only [nP,zr,zq]
      rw [←hb17]
      rw [hγ]
      replace FR0:=hid FR.out.le
      clear E GE hγ eb17 hb17
      go_upto_region 19 with fail
      refine wfn [⟨true,6,18,7,0,0,25,96,cu,0,cu,[]⟩] [(93,.agg cp.toArray),(94,.agg cs.toArray),(95,.tuple #[.agg cu.toArray,.int .i64 0]),(92,.tuple #[.agg cu.toArray,.int .i64 0]),(96,.agg cu.toArray),(97,.int .i64 0),(19,.int .i64 0)] _ (by simp only [zz4,zz5,zq];rfl) (by kernel_rfl) (by kernel_rfl) rfl ?_ ?_ ?_ ?_
      ·intro W' hW'
       have rd0:=Ab16.out.below hW'
       have rd1:=Ab17.out.below hW'
       refine fxo (wlg (by rfl) rfl rfl rd0 Tryz.underlying25 rfl (qI V_cp.out) (wqn (by simp only [zq]))) ?_
       refine fxo (wlg (by rfl) rfl rfl rd1 Tryz.underlying25 rfl (qI V_cs.out) (wqn (by simp only [zq]))) ?_
       refine fxo ?_ ?_;(go_big_quiet_step ((go_at_call 41;exact Calls.below_of (HAD.out _)));(try simp only [zq]);exact wqn rfl)
       iterate 3 (refine fxo ?_ ?_;(go_big_quiet_step (fail);(try simp only [zq]);exact wqn rfl))
       iterate 2 (refine fxs (by rfl) ?_)
       refine fxo ?_ ?_;(go_big_quiet_step (fail);(try simp only [zq]);exact wqn rfl)
       exact fxn
      ·exact oP _ _ (Tryz.alI (qI V_cu.out)) (oN)
      ·exact oP _ _ (stw rfl (qI V_cu.out) (oneI V_cu.out) (fun _=>rfl)) (oN)
      intro β wx4 E
      replace FR:=hid (FR.out.fnw E rfl)
      replace FW:=hid (FW.out.fnw E rfl)
      obtain ⟨b18,hb18⟩:∃ b,b=β 6:=⟨_,rfl⟩
      have eb18:=E.atNew mms rfl
      simp only at eb18
      rw [←hb18] at eb18
      have lb10_b18:b10<b18:=by have h1:=eb18.1;have h2:=Ab10.out.lt;omega
      have log_b18:og<b18:=by have h1:=eb18.1;have h2:=AOG.out.lt;omega
      have lX_b18:X<b18:=by have h1:=eb18.1;have h2:=AX.out.lt;omega
      have lb15_b18:b15<b18:=by have h1:=eb18.1;have h2:=Ab15.out.lt;omega
      have lb16_b18:b16<b18:=by have h1:=eb18.1;have h2:=Ab16.out.lt;omega
      have lb17_b18:b17<b18:=by have h1:=eb18.1;have h2:=Ab17.out.lt;omega
      have hZb18:B0≤b18:=by have h1:=eb18.1;have h2:=FR0.out;omega
      replace Ab10:=hid (Ab10.out.fnw E rfl)
      replace AOG:=hid (AOG.out.fnw E rfl)
      replace AX:=hid (AX.out.fnw E rfl)
      replace Ab15:=hid (Ab15.out.fnw E rfl)
      replace Ab10_n:=hid (Ab10_n.out.fnw E rfl)
      replace Ab10_d:=hid (Ab10_d.out.fnw E rfl)
      replace Ab16:=hid (Ab16.out.fnw E rfl)
      replace Ab17:=hid (Ab17.out.fnw E rfl)
      have Ab18:=hid eb18.2
      simp only [nP,zr,zq]
      rw [←hb18]
      replace FR0:=hid FR.out.le
      clear E eb18 hb18
      go_upto_region 20 with fail
      obtain ⟨ro,hro⟩:∃ r,r=mkQ (c.1*(o:Int)+y*(c.2:Int)*(M:Int)) (c.2*M):=⟨_,rfl⟩
      have HRO:=hid hro
      obtain ⟨code,hcode⟩:∃ e,e=resE ro:=⟨_,rfl⟩
      obtain ⟨cR,hcR⟩:∃ e,e=resR ro:=⟨_,rfl⟩
      have HMK:=hid (pmakeQ V_cu.out HCE.out (show cR=resR (mkQ _ _) by rw [hcR,hro]) (show code=resE (mkQ _ _) by rw [hcode,hro]) HBD.out.num HBD.out.den HBD.out.pos)
      clear hro
      cases ro with
      | none =>
       have V_cR:=hid (show cR=rat false 0 false 0 from hcR)
       obtain rfl:code=10:=hcode
       clear hcR
       refine wp_flowH 13 [4] (fun _=>SlAt 2 (List.flatten [cd,cM])) (fun _=>ftSl) [⟨true,10,20,11,0,0,27,106,cR,0,cR,[]⟩] [⟨99,[],fun _=>.agg cu.toArray⟩,⟨100,[],fun _=>.pointer (some ⟨b10,33,none⟩)⟩,⟨101,[],fun _=>.agg cd.toArray⟩,⟨102,[],fun _=>.agg cM.toArray⟩,⟨103,[4],fun l=>l.getD 0 undef⟩,⟨104,[],fun _=>.agg ce.toArray⟩,⟨105,[],fun _=>.tuple #[.agg cR.toArray,.int .i64 10]⟩,⟨98,[],fun _=>.tuple #[.agg cR.toArray,.int .i64 10]⟩,⟨106,[],fun _=>.agg cR.toArray⟩,⟨107,[],fun _=>.int .i64 10⟩,⟨21,[],fun _=>.int .i64 10⟩] _ (by simp only [List.take_succ_cons,List.take_zero,List.take_nil];rfl) (by simp only [List.drop_succ_cons,List.drop_zero,List.drop_nil];rfl) (by intro γ;simp only [finG,List.foldl_cons,List.foldl_nil,List.map_cons,List.map_nil,List.getD_cons_zero,zq];rfl) (by kernel_rfl) (by kernel_rfl) (by kernel_rfl) (by kernel_rfl) (by kernel_rfl) (ghSl _ _) ?_ ?_ ?_ ?_ ?_ ?_ ?_ ?_ ?_
       ·intro γ W' hW'
        have rd0:=Ab18.out.below hW'
        have rd1:=Ab10_d.out.below hW'
        have rd2:=Ab15.out.below hW'
        refine fxgo (wlg (by rfl) rfl rfl rd0 Tryz.underlying25 rfl (qI V_cu.out) (wqn (by simp only [zq]))) ?_
        refine fxgo ?_ ?_;(go_big_quiet_step (fail);(try simp only [zq]);exact wqn rfl)
        refine fxgo (wlg (by rfl) rfl rfl rd1 Tryz.underlying25 rfl (qI V_cd.out) (wqn (by simp only [zq]))) ?_
        refine fxgo (wlg (by rfl) rfl rfl rd2 Tryz.underlying25 rfl (qI V_cM.out) (wqn (by simp only [zq]))) ?_
        refine fxgs (by rfl) ?_
        refine flowXG_of 4 (by kernel_rfl) (by kernel_rfl) (fun hf=>?_) ?_;(obtain ⟨gb,hgv,hgA⟩:=hf;rw [hgv];simp only [List.flatten_cons,List.flatten_nil,List.append_nil] at hgA;go_big_quiet_step ((go_at_call 40;exact Calls.below_of (HPE.out _ gb (hgA.below (qbG _ _ _)))));(try simp only [zq]);exact wqn rfl)
        refine fxgo ?_ ?_;(go_big_quiet_step ((go_at_call 42;exact Calls.below_of (HMK.out _)));(try simp only [zq]);exact wqn rfl)
        iterate 3 (refine fxgo ?_ ?_;(go_big_quiet_step (fail);(try simp only [zq]);exact wqn rfl))
        iterate 2 (refine fxgs (by rfl) ?_)
        refine fxgo ?_ ?_;(go_big_quiet_step (fail);(try simp only [zq]);exact wqn rfl)
        exact flowXG_nil
       ·intro γ W' hK'
        iterate 13 (refine fxgs (by rfl) ?_)
        exact flowXG_nil
       ·intro γ j hj oj hoj W' hK' hE' _
        obtain rfl:=List.mem_singleton.1 hj
        cases hoj
        exact ⟨rfl,GY.build (len:=2) [cd,cM] rfl (by simp [Act.eval]) rfl (by decide) (show 0<33 by decide) (by intro c hc;simp only [List.mem_cons,List.not_mem_nil,or_false] at hc;rcases hc with e|e<;>(rw [e];first|(rw [V_cd.out];simp [iZ,qlL];done)|(rw [V_cM.out];simp [iZ,qlL];done))) (by decide) Tryz.underlying107 Tryz.infoI33 (by kernel_rfl)⟩
       ·intro γ j hj oj hoj
        obtain rfl:=List.mem_singleton.1 hj
        cases hoj
        rfl
       ·exact oP _ _ (fun _=>Tryz.alR (qR V_cR.out)) (oN)
       ·exact oP _ _ (fun h=>Bool.noConfusion h) (oN)
       ·exact uno
       ·intro γ
        exact oP _ _ (stw rfl (qR V_cR.out) (oneR V_cR.out) (fun _=>rfl)) (oN)
       intro β γ wx5 E GE
       obtain ⟨g20,hγ,_⟩:=GE.r 4 mms
       refine wpList_nil ?_
       replace FR:=hid (FR.out.flow E (oP _ _ (fun h=>Bool.noConfusion h) (oN)))
       replace FW:=hid (FW.out.flow E (oP _ _ (fun h=>Bool.noConfusion h) (oN)))
       obtain ⟨b20,hb20⟩:∃ b,b=β 10:=⟨_,rfl⟩
       have eb20:=E.atNew mms rfl
       simp only at eb20
       rw [←hb20] at eb20
       have lb10_b20:b10<b20:=by have h1:=eb20.1;have h2:=Ab10.out.lt;omega
       have log_b20:og<b20:=by have h1:=eb20.1;have h2:=AOG.out.lt;omega
       have lX_b20:X<b20:=by have h1:=eb20.1;have h2:=AX.out.lt;omega
       have lb15_b20:b15<b20:=by have h1:=eb20.1;have h2:=Ab15.out.lt;omega
       have lb16_b20:b16<b20:=by have h1:=eb20.1;have h2:=Ab16.out.lt;omega
       have lb17_b20:b17<b20:=by have h1:=eb20.1;have h2:=Ab17.out.lt;omega
       have lb18_b20:b18<b20:=by have h1:=eb20.1;have h2:=Ab18.out.lt;omega
       have hZb20:B0≤b20:=by have h1:=eb20.1;have h2:=FR0.out;omega
       replace Ab10:=hid (At.flow E Ab10.out (oP _ _ (fun h=>Bool.noConfusion h) (oN)))
       replace AOG:=hid (At.flow E AOG.out (oP _ _ (fun h=>Bool.noConfusion h) (oN)))
       replace AX:=hid (At.flow E AX.out (oP _ _ (fun h=>Bool.noConfusion h) (oN)))
       replace Ab15:=hid (At.flow E Ab15.out (oP _ _ (fun h=>Bool.noConfusion h) (oN)))
       replace Ab10_n:=hid (At.flow E Ab10_n.out (oP _ _ (fun h=>Bool.noConfusion h) (oN)))
       replace Ab10_d:=hid (At.flow E Ab10_d.out (oP _ _ (fun h=>Bool.noConfusion h) (oN)))
       replace Ab16:=hid (At.flow E Ab16.out (oP _ _ (fun h=>Bool.noConfusion h) (oN)))
       replace Ab17:=hid (At.flow E Ab17.out (oP _ _ (fun h=>Bool.noConfusion h) (oN)))
       replace Ab18:=hid (At.flow E Ab18.out (oP _ _ (fun h=>Bool.noConfusion h) (oN)))
       have Ab20:=hid eb20.2
       simp only [nP,zr,zq]
       rw [←hb20]
       rw [hγ]
       replace FR0:=hid FR.out.le
       clear E GE hγ eb20 hb20
       have HR3:=hid (show exactR t l=(10,[]) by rw [HR2.out,exL_fail HX.out (by rw [HER.out,←HRO.out])])
       go_wp2_with fail
       go_ret2
       show ExactP (exactR t l) _ _ _
       rw [HR3.out]
       refine ⟨.slice none 0 0,(by rfl),?_,fun q hq=>(by cases hq),by have:=FR.out.below;rwa [HB0.out] at this⟩
       exact rd_nil _ _
      | some r =>
       have V_cR:=hid (show cR=ratZ r.1 r.2 from hcR)
       obtain rfl:code=0:=hcode
       clear hcR
       refine wp_flowH 13 [4] (fun _=>SlAt 2 (List.flatten [cd,cM])) (fun _=>ftSl) [⟨true,10,20,11,0,0,27,106,cR,0,cR,[]⟩] [⟨99,[],fun _=>.agg cu.toArray⟩,⟨100,[],fun _=>.pointer (some ⟨b10,33,none⟩)⟩,⟨101,[],fun _=>.agg cd.toArray⟩,⟨102,[],fun _=>.agg cM.toArray⟩,⟨103,[4],fun l=>l.getD 0 undef⟩,⟨104,[],fun _=>.agg ce.toArray⟩,⟨105,[],fun _=>.tuple #[.agg cR.toArray,.int .i64 0]⟩,⟨98,[],fun _=>.tuple #[.agg cR.toArray,.int .i64 0]⟩,⟨106,[],fun _=>.agg cR.toArray⟩,⟨107,[],fun _=>.int .i64 0⟩,⟨21,[],fun _=>.int .i64 0⟩] _ (by simp only [List.take_succ_cons,List.take_zero,List.take_nil];rfl) (by simp only [List.drop_succ_cons,List.drop_zero,List.drop_nil];rfl) (by intro γ;simp only [finG,List.foldl_cons,List.foldl_nil,List.map_cons,List.map_nil,List.getD_cons_zero,zq];rfl) (by kernel_rfl) (by kernel_rfl) (by kernel_rfl) (by kernel_rfl) (by kernel_rfl) (ghSl _ _) ?_ ?_ ?_ ?_ ?_ ?_ ?_ ?_ ?_
       ·intro γ W' hW'
        have rd0:=Ab18.out.below hW'
        have rd1:=Ab10_d.out.below hW'
        have rd2:=Ab15.out.below hW'
        refine fxgo (wlg (by rfl) rfl rfl rd0 Tryz.underlying25 rfl (qI V_cu.out) (wqn (by simp only [zq]))) ?_
        refine fxgo ?_ ?_;(go_big_quiet_step (fail);(try simp only [zq]);exact wqn rfl)
        refine fxgo (wlg (by rfl) rfl rfl rd1 Tryz.underlying25 rfl (qI V_cd.out) (wqn (by simp only [zq]))) ?_
        refine fxgo (wlg (by rfl) rfl rfl rd2 Tryz.underlying25 rfl (qI V_cM.out) (wqn (by simp only [zq]))) ?_
        refine fxgs (by rfl) ?_
        refine flowXG_of 4 (by kernel_rfl) (by kernel_rfl) (fun hf=>?_) ?_;(obtain ⟨gb,hgv,hgA⟩:=hf;rw [hgv];simp only [List.flatten_cons,List.flatten_nil,List.append_nil] at hgA;go_big_quiet_step ((go_at_call 40;exact Calls.below_of (HPE.out _ gb (hgA.below (qbG _ _ _)))));(try simp only [zq]);exact wqn rfl)
        refine fxgo ?_ ?_;(go_big_quiet_step ((go_at_call 42;exact Calls.below_of (HMK.out _)));(try simp only [zq]);exact wqn rfl)
        iterate 3 (refine fxgo ?_ ?_;(go_big_quiet_step (fail);(try simp only [zq]);exact wqn rfl))
        iterate 2 (refine fxgs (by rfl) ?_)
        refine fxgo ?_ ?_;(go_big_quiet_step (fail);(try simp only [zq]);exact wqn rfl)
        exact flowXG_nil
       ·intro γ W' hK'
        iterate 13 (refine fxgs (by rfl) ?_)
        exact flowXG_nil
       ·intro γ j hj oj hoj W' hK' hE' _
        obtain rfl:=List.mem_singleton.1 hj
        cases hoj
        exact ⟨rfl,GY.build (len:=2) [cd,cM] rfl (by simp [Act.eval]) rfl (by decide) (show 0<33 by decide) (by intro c hc;simp only [List.mem_cons,List.not_mem_nil,or_false] at hc;rcases hc with e|e<;>(rw [e];first|(rw [V_cd.out];simp [iZ,qlL];done)|(rw [V_cM.out];simp [iZ,qlL];done))) (by decide) Tryz.underlying107 Tryz.infoI33 (by kernel_rfl)⟩
       ·intro γ j hj oj hoj
        obtain rfl:=List.mem_singleton.1 hj
        cases hoj
        rfl
       ·exact oP _ _ (fun _=>Tryz.alR (qR V_cR.out)) (oN)
       ·exact oP _ _ (fun h=>Bool.noConfusion h) (oN)
       ·exact uno
       ·intro γ
        exact oP _ _ (stw rfl (qR V_cR.out) (oneR V_cR.out) (fun _=>rfl)) (oN)
       intro β γ wx5 E GE
       obtain ⟨g20,hγ,_⟩:=GE.r 4 mms
       refine wpList_nil ?_
       replace FR:=hid (FR.out.flow E (oP _ _ (fun h=>Bool.noConfusion h) (oN)))
       replace FW:=hid (FW.out.flow E (oP _ _ (fun h=>Bool.noConfusion h) (oN)))
       obtain ⟨b20,hb20⟩:∃ b,b=β 10:=⟨_,rfl⟩
       have eb20:=E.atNew mms rfl
       simp only at eb20
       rw [←hb20] at eb20
       have lb10_b20:b10<b20:=by have h1:=eb20.1;have h2:=Ab10.out.lt;omega
       have log_b20:og<b20:=by have h1:=eb20.1;have h2:=AOG.out.lt;omega
       have lX_b20:X<b20:=by have h1:=eb20.1;have h2:=AX.out.lt;omega
       have lb15_b20:b15<b20:=by have h1:=eb20.1;have h2:=Ab15.out.lt;omega
       have lb16_b20:b16<b20:=by have h1:=eb20.1;have h2:=Ab16.out.lt;omega
       have lb17_b20:b17<b20:=by have h1:=eb20.1;have h2:=Ab17.out.lt;omega
       have lb18_b20:b18<b20:=by have h1:=eb20.1;have h2:=Ab18.out.lt;omega
       have hZb20:B0≤b20:=by have h1:=eb20.1;have h2:=FR0.out;omega
       replace Ab10:=hid (At.flow E Ab10.out (oP _ _ (fun h=>Bool.noConfusion h) (oN)))
       replace AOG:=hid (At.flow E AOG.out (oP _ _ (fun h=>Bool.noConfusion h) (oN)))
       replace AX:=hid (At.flow E AX.out (oP _ _ (fun h=>Bool.noConfusion h) (oN)))
       replace Ab15:=hid (At.flow E Ab15.out (oP _ _ (fun h=>Bool.noConfusion h) (oN)))
       replace Ab10_n:=hid (At.flow E Ab10_n.out (oP _ _ (fun h=>Bool.noConfusion h) (oN)))
       replace Ab10_d:=hid (At.flow E Ab10_d.out (oP _ _ (fun h=>Bool.noConfusion h) (oN)))
       replace Ab16:=hid (At.flow E Ab16.out (oP _ _ (fun h=>Bool.noConfusion h) (oN)))
       replace Ab17:=hid (At.flow E Ab17.out (oP _ _ (fun h=>Bool.noConfusion h) (oN)))
       replace Ab18:=hid (At.flow E Ab18.out (oP _ _ (fun h=>Bool.noConfusion h) (oN)))
       have Ab20:=hid eb20.2
       simp only [nP,zr,zq]
       rw [←hb20]
       rw [hγ]
       replace FR0:=hid FR.out.le
       clear E GE hγ eb20 hb20
       have HOW2:=hid (ownsRow_below HOW.out FW.out.below)
       have hBW:B0≤wx5.heap.size:=FR0.out
       have hBLW:BL≤wx5.heap.size:=Nat.le_trans hBL1 FW.out.le
       have lcR:cR.length=66:=by rw [V_cR.out,ratZ_len]
       have HLR:=hid lcR
       clear lcR HOW FW
       obtain ⟨i0,hi,hz0,hz1,hz2⟩:=info_parts Tryz.infoR66
       go_upto_region 24 with (first|(refine wpList_load_mid rfl _ _ rfl b20 0 rfl cR _ Ab20.out.range Tryz.underlying27 rfl (qR V_cR.out) ?_)|(refine wpList_buildRow1 rfl (s:=66) cR rfl (by simp [Act.eval,Act.put]) (by decide) HLR.out (by decide) Tryz.underlying33 Tryz.infoRs (by kernel_rfl) ?_)|(at_builtin;refine wpList_append_own _ rfl _ _ 33 rfl BL 27 i0 _ 66 264 Tryz.underlying33 hi hz0 hz1 hz2 rfl (by decide) _ _ _ rfl (World.ownsRow.alloc HOW2.out _) ⟨wx5.heap.size,0,none⟩ 1 1 cR rfl HLR.out ?_ ?_ ?_ ?_ ?_ ?_;(intro j u hu;exact cells_new wx5 cR _ j u hu);exact (oneR' V_cR.out);exact small_maxLen (by omega);omega;(simp;omega);intro v' Wa hown' hgrow _))
       have hq:∀ q,u12.ownBlock=some q→BL≤q:=fun q h=>(HOW2.out.lt q h).1
       have h10':=(Ab10.out.alloc (.cells cR.toArray 27)).grown hgrow (fun q h e=>by have:=hq q h;omega)
       have hog':=(AOG.out.alloc (.cells cR.toArray 27)).grown hgrow (fun q h e=>by have:=hq q h;omega)
       have hF':Fr B0 w Wa:=⟨(FR.out.below.alloc FR.out.le _).grown hgrow (by simp;omega) (fun q h=>by have:=hq q h;omega),by have:=hgrow.size;simp at this;omega⟩
       have hR':exL c S (l.take (k+1))=some (rs++[r]):=by rw [exL_take HRS.out HX.out,HER.out,←HRO.out];rfl
       have hO':Wa.ownsRow BL 27 66 v' (k+1) (cellsQ (rs++[r])):=by
        rw [show cellsQ (rs++[r])=cellsQ rs++cR by rw [V_cR.out];simp [cellsQ]];exact hown'
       have hL':BL≤Wa.heap.size:=by have:=hgrow.size;simp at this;omega
       have HALL:=hid (And.intro h10' (And.intro hog' (And.intro hF' (And.intro hR' (And.intro hO' hL')))))
       clear h10' hog' hF' hR' hO' hL' hq hown' hgrow hi hz0 hz1 hz2
       go_wp2
       go_roundg (gk - 1)
       case measure=>omega
       case rel=>exact ⟨k+1,rs++[r],by omega,by omega,by go_num,HALL.out.2.2.2.1,HALL.out.2.2.2.2.1,HALL.out.1,HALL.out.2.1,HALL.out.2.2.1,HALL.out.2.2.2.2.2⟩
     ·have e:l.take k=l:=List.take_of_length_le (by rw [←HN.out];omega)
      have HR3:=hid (show exactR t l=(0,rs) by rw [HR2.out];have:=HRS.out;rw [e] at this;rw [this])
      have hlen:=exL_len HRS.out
      rw [e,←HN.out] at hlen
      have HLN:=hid (show rs.length=k by omega)
      clear e hlen
      go_wp2
      go_ret2
      show ExactP (exactR t l) _ _ _
      rw [HR3.out]
      exact ⟨u12,(by rfl),by have:=Rd.of_own HOW.out;rw [←HLN.out] at this;exact this,fun q hq=>(by have h1:=(HOW.out.lt q hq).1;rw [←HB0.out];omega),by have:=FR.out.below;rwa [HB0.out] at this⟩
end Go.Proofs.YtmcekgapelanhaaGreat
