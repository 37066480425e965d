import Derived.Test.YtmcekgapelanhaaGreatRcB
import Derived.Test.YtmcekgapelanhaaGreatRcF
import Derived.Test.YtmcekgapelanhaaGreatAlJ
set_option linter.unusedVariables false
set_option linter.unusedSimpArgs false
set_option maxRecDepth 100000
set_option maxHeartbeats 8000000
namespace Go.Proofs.YtmcekgapelanhaaGreat
open Go.RowKit Big Al Tok Ap
open Lib (hid)
theorem alloc_uniq {t:Int} {l:List Bk} {r r':Int × List Sh} (h:AllocR t l r) (h':AllocR t l r'):r=r':=by
 cases h with
 | tot a=>cases h' with
  | tot=>rfl
  | cap b=>exact absurd (a.symm.trans b) (by decide)
  | far b=>exact absurd (a.symm.trans b) (by decide)
  | net _ _ b=>exact absurd (a.symm.trans b) (by decide)
  | ok _ b=>exact absurd (a.symm.trans b) (by decide)
 | cap a b c=>cases h' with
  | tot d=>exact absurd (d.symm.trans a) (by decide)
  | cap=>rfl
  | far _ d=>exact absurd ⟨b,c⟩ d
  | net _ _ _ d=>exact absurd ⟨b,c⟩ d
  | ok _ _ d=>exact absurd ⟨b,c⟩ d
 | far a b c=>cases h' with
  | tot d=>exact absurd (d.symm.trans a) (by decide)
  | cap _ d e=>exact absurd ⟨d,e⟩ b
  | far=>rfl
  | net _ _ _ _ d=>exact absurd (c.symm.trans d) (by decide)
  | ok _ _ _ d=>exact absurd (c.symm.trans d) (by decide)
 | net rs s a b c d e f=>cases h' with
  | tot g=>exact absurd (g.symm.trans a) (by decide)
  | cap _ g i=>exact absurd ⟨g,i⟩ b
  | far _ _ g=>exact absurd (g.symm.trans c) (by decide)
  | net=>rfl
  | ok rs' _ _ _ g i =>
   rw [res_unique d g] at e
   exact absurd (f.symm.trans (i s e)) (by decide)
 | ok rs a b c d e=>cases h' with
  | tot g=>exact absurd (g.symm.trans a) (by decide)
  | cap _ g i=>exact absurd ⟨g,i⟩ b
  | far _ _ g=>exact absurd (g.symm.trans c) (by decide)
  | net rs' s _ _ _ g i j =>
   rw [←res_unique d g] at i
   exact absurd (j.symm.trans (e s i)) (by decide)
  | ok rs' _ _ _ g i=>rw [res_unique d g]
theorem alloc_ex {t:Int} {l:List Bk} {r:Int × List Sh} (h:AllocR t l r):inM t=true→¬(sumO l=0∧comm t l≠0)→inM (comm t l)=true→∃ rs,Res (comm t l) (l.map Bk.op) rs:=by
 intro h1 h2 h3
 cases h with
 | tot a=>exact absurd (a.symm.trans h1) (by decide)
 | cap _ b c=>exact absurd ⟨b,c⟩ h2
 | far _ _ c=>exact absurd (c.symm.trans h3) (by decide)
 | net rs s _ _ _ d=>exact ⟨rs,d⟩
 | ok rs _ _ _ d=>exact ⟨rs,d⟩
def AllQ (t:Int) (l:List Bk) (r:Int × List Sh):Prop:=if checkB l=true then AllocR t l r else r=(210,[])
def AllQP (t:Int) (l:List Bk) (w:World) (e:Ending) (w':World):Prop :=
 ∃ vo r,AllQ t l r∧e=.returned (.tuple #[vo,.int .i64 r.1])∧Rd w' 5 vo r.2.length (cellsS r.2)∧Below w.heap.size w w'
theorem alloc_q (t:Int) (l:List Bk) (v:Value) (w:World) (h:BksAt w v l):Calls Tryz.prog 7 #[.int .i64 t,v] w (AllQP t l w):=by
 cases hC:checkB l with
 | true=>exact (alloc_any t l v w h hC).mono fun e w' ⟨vo,r,h1,h2,h3,h4⟩=>⟨vo,r,by unfold AllQ;rw [if_pos hC];exact h1,h2,h3,h4⟩
 | false=>exact (alloc_bad t l v w h hC).mono fun e w' ⟨h1,h2⟩=>⟨_,(210,[]),by unfold AllQ;rw [hC];rfl,h1,rd_nil _ _,h2⟩
theorem ralloc_q (t:Int) (l:List Bk) (v:Value) (r:Int × List Sh) (hr:AllQ t l r) (w:World) (h:BksAt w v l):Calls Tryz.prog 8 #[.int .i64 t,v] w (fun e w'=>∃ vo,e=.returned (.tuple #[vo,.int .i64 r.1])∧Rd w' 5 vo r.2.length (cellsS r.2)∧Below w.heap.size w w'):=by
 cases hC:checkB l with
 | true =>
  have hr':=hr
  unfold AllQ at hr'
  rw [if_pos hC] at hr'
  refine (ralloc_any t l v w h hC (alloc_ex hr')).mono fun e w' ⟨vo,r',h1,h2,h3,h4⟩=>?_
  obtain rfl:=alloc_uniq hr' h1
  exact ⟨vo,h2,h3,h4⟩
 | false =>
  unfold AllQ at hr
  rw [hC] at hr
  have hr':r=(210,[]):=by simpa using hr
  subst hr'
  exact (ralloc_bad t l v w h hC).mono fun e w' ⟨h1,h2⟩=>⟨_,h1,rd_nil _ _,h2⟩
def okQ (n:Bool) (p:Nat) (m:Bool) (q:Nat):Prop:=p<B480∧q<B480∧n=cs1 n p∧m=false∧q≠0∧Nat.gcd p q=1
instance (n:Bool) (p:Nat) (m:Bool) (q:Nat):Decidable (okQ n p m q):=by unfold okQ;infer_instance
def qOf (n:Bool) (p q:Nat):Qn:=(if n=true then -(p:Int) else (p:Int),q)
theorem okQ_vq {n m:Bool} {p q:Nat} (h:okQ n p m q):VQ (qOf n p q)∧rat n p m q=ratZ (qOf n p q).1 (qOf n p q).2:=by
 obtain ⟨h1,h2,h3,rfl,h5,h6⟩:=h
 have ha:(qOf n p q).1.natAbs=p:=by unfold qOf;cases n<;>simp
 refine ⟨⟨by rw [ha];exact h1,h2,h5,by rw [ha];exact h6⟩,?_⟩
 unfold ratZ
 rw [ha]
 have:decide ((qOf n p q).1<0)=n:=by
  unfold qOf
  cases n with
  | false=>simp
  | true =>
   have hp:p≠0:=by rintro rfl;simp [cs1] at h3
   simp;omega
 rw [this];rfl
def exQ (n:Bool) (p:Nat) (m:Bool) (q:Nat) (l:List Bk):Int × List Qn:=if checkB l=true then (if okQ n p m q then exactR (qOf n p q) l else (20,[])) else (210,[])
theorem exL_vq {c:Qn} {S:Nat} (hc:VQ c):∀ {l:List Bk} {rs:List Qn},exL c S l=some rs→∀ r∈rs,VQ r:=by
 intro l
 induction l with
 | nil=>intro rs h;simp only [exL,Option.some.injEq] at h;subst h;simp
 | cons b l ih =>
  intro rs h
  unfold exL at h
  cases hx:exR c S b with
  | none=>rw [hx] at h;cases h
  | some r =>
   rw [hx] at h
   cases hl:exL c S l with
   | none=>rw [hl] at h;cases h
   | some rs' =>
    rw [hl] at h
    simp only [Option.map_some,Option.some.injEq] at h
    subst h
    intro y hy
    rcases List.mem_cons.1 hy with rfl|hy
    ·exact mkQ_valid (Nat.mul_ne_zero hc.pos (by omega)) hx
    ·exact ih hl y hy
theorem exQ_vq {n m:Bool} {p q:Nat} {l:List Bk}:∀ r∈(exQ n p m q l).2,VQ r:=by
 unfold exQ
 split
 ·split
  ·rename_i hv
   unfold exactR
   cases hs:subQ (qOf n p q) ((sumO l:Int)+ownS l,1) with
   | none=>simp
   | some c =>
    have hc:VQ c:=mkQ_valid (Nat.mul_ne_zero (okQ_vq hv).1.pos (by simp)) hs
    simp only
    split
    ·simp
    ·cases hx:exL c (sumO l) l with
     | none=>simp
     | some rs=>exact exL_vq hc hx
  ·simp
 ·simp
def ExQP (r:Int × List Qn) (w:World) (e:Ending) (w':World):Prop:=∃ vo,e=.returned (.tuple #[vo,.int .i64 r.1])∧Rd w' 66 vo r.2.length (cellsQ r.2)∧Below w.heap.size w w'
theorem exact_q {ct:List Value} {n m:Bool} {p q:Nat} (l:List Bk) (v:Value) (hct:ct=rat n p m q) (hp:p<BB^32) (hq:q<BB^32) (w:World) (h:BksAt w v l):Calls Tryz.prog 9 #[.agg ct.toArray,v] w (ExQP (exQ n p m q l) w):=by
 unfold exQ
 cases hC:checkB l with
 | true =>
  rw [if_pos rfl]
  by_cases hv:okQ n p m q
  ·rw [if_pos hv]
   exact (exact_any _ l v w h hC (okQ_vq hv).1 (by rw [hct];exact (okQ_vq hv).2)).mono fun e w' ⟨vo,h1,h2,_,h4⟩=>⟨vo,h1,h2,h4⟩
  ·rw [if_neg hv]
   exact (exact_inv l v w h hC hct hp hq hv).mono fun e w' ⟨h1,h2⟩=>⟨_,h1,rd_nil _ _,h2⟩
 | false =>
  rw [if_neg (by decide)]
  exact (exact_bad l v w h hC).mono fun e w' ⟨h1,h2⟩=>⟨_,h1,rd_nil _ _,h2⟩
theorem rexact_q {ct:List Value} {n m:Bool} {p q:Nat} (l:List Bk) (v:Value) (hct:ct=rat n p m q) (hp:p<BB^32) (hq:q<BB^32) (w:World) (h:BksAt w v l):Calls Tryz.prog 10 #[.agg ct.toArray,v] w (ExQP (exQ n p m q l) w):=by
 unfold exQ
 cases hC:checkB l with
 | true =>
  rw [if_pos rfl]
  by_cases hv:okQ n p m q
  ·rw [if_pos hv]
   exact (rexact_any _ l v w h hC (okQ_vq hv).1 (by rw [hct];exact (okQ_vq hv).2)).mono fun e w' ⟨vo,h1,h2,_,h4⟩=>⟨vo,h1,h2,h4⟩
  ·rw [if_neg hv]
   exact (rexact_inv l v w h hC hct hp hq hv).mono fun e w' ⟨h1,h2⟩=>⟨_,h1,rd_nil _ _,h2⟩
 | false =>
  rw [if_neg (by decide)]
  exact (rexact_bad l v w h hC).mono fun e w' ⟨h1,h2⟩=>⟨_,h1,rd_nil _ _,h2⟩
theorem rd_some {w:World} {size n:Nat} {xs:List Value} {A:Option Addr} {cap:Nat} (h:Rd w size (.slice A n cap) n xs) (hn:0<n):∃ g off,A=some ⟨g,off,none⟩∧∀ j u,xs[j]?=some u→w.cell? ⟨g,off+j,none⟩=some u:=by
 obtain ⟨_,_,A',cap',hv,hc⟩:=h
 injection hv with h1
 subst h1
 exact hc hn
theorem cellsS_get (l:List Sh) (k:Nat) (s:Sh) (h:l[k]?=some s):∀ j u,s.cells[j]?=some u→(cellsS l)[k*5+j]?=some u:=by
 induction l generalizing k with
 | nil=>simp at h
 | cons b l ih =>
  intro j u hj
  have hb:b.cells.length=5:=rfl
  cases k with
  | zero =>
   simp only [List.getElem?_cons_zero,Option.some.injEq] at h
   subst h
   have hjl:=(List.getElem?_eq_some_iff.1 hj).1
   simp only [cellsS,List.flatMap_cons,Nat.zero_mul,Nat.zero_add]
   rw [List.getElem?_append_left hjl];exact hj
  | succ k =>
   simp only [List.getElem?_cons_succ] at h
   have:=ih k h j u hj
   simp only [cellsS,List.flatMap_cons] at this ⊢
   rw [List.getElem?_append_right (by rw [hb];omega),hb,show (k+1)*5+j - 5=k*5+j by omega]
   exact this
theorem cellsQ_get (l:List Qn) (k:Nat) (s:Qn) (h:l[k]?=some s):∀ j u,(ratZ s.1 s.2)[j]?=some u→(cellsQ l)[k*66+j]?=some u:=by
 induction l generalizing k with
 | nil=>simp at h
 | cons b l ih =>
  intro j u hj
  have hb:(ratZ b.1 b.2).length=66:=ratZ_len _ _
  cases k with
  | zero =>
   simp only [List.getElem?_cons_zero,Option.some.injEq] at h
   subst h
   have hjl:=(List.getElem?_eq_some_iff.1 hj).1
   simp only [cellsQ,List.flatMap_cons,Nat.zero_mul,Nat.zero_add]
   rw [List.getElem?_append_left hjl];exact hj
  | succ k =>
   simp only [List.getElem?_cons_succ] at h
   have:=ih k h j u hj
   simp only [cellsQ,List.flatMap_cons] at this ⊢
   rw [List.getElem?_append_right (by rw [hb];omega),hb,show (k+1)*66+j - 66=k*66+j by omega]
   exact this
theorem exact_law {cr:List Value} {n m:Bool} {p q:Nat} (total:Int) (l:List Bk) (v:Value) (w:World) (h:BksAt w v l) (hcr:cr=rat n p m q) (hp:p<BB^32) (hq:q<BB^32) :
  Calls Tryz.prog 3 #[.int .i64 total,.agg cr.toArray,v] w fun e w'=>e=.returned (.bool true)∧Below w.heap.size w w':=by
 have V_cr:=hid hcr
 have HBK:=hid h
 have HFB:=hid (show ∀ W,Fr w.heap.size w W→BksAt W v l from fun W hF=>HBK.out.below hF.below)
 have HX1:=hid (fun W (hW:BksAt W v l)=>exact_q l v hcr hp hq W hW)
 have HX2:=hid (fun W (hW:BksAt W v l)=>rexact_q l v hcr hp hq W hW)
 have HVX:=hid (exQ_vq (n:=n) (m:=m) (p:=p) (q:=q) (l:=l))
 obtain ⟨⟨xc,xl⟩,hx⟩:∃ x,x=exQ n p m q l:=⟨_,rfl⟩
 rw [←hx] at HX1 HX2 HVX
 obtain ⟨ck,hck⟩:∃ c:Int,c=if checkB l=true then 0 else 210:=⟨_,rfl⟩
 have HC1:=hid (fun W (hW:BksAt W v l)=>show Calls Tryz.prog 12 #[v] W (fun e w'=>e=.returned (.int .i64 ck)∧Below W.heap.size W w') by rw [hck];exact acheck_any v l W hW)
 have HC2:=hid (fun W (hW:BksAt W v l)=>show Calls Tryz.prog 13 #[v] W (fun e w'=>e=.returned (.int .i64 ck)∧Below W.heap.size W w') by rw [hck];exact rcheck_any v l W hW)
 clear hcr hp hq h hx hck
 obtain ⟨B0,hB0⟩:∃ B,B=w.heap.size:=⟨_,rfl⟩
 obtain ⟨w0,hw0⟩:∃ w0,w0=(w.alloc (.cells cr.toArray 27)):=⟨_,rfl⟩
 have AB0:=hid (show At w0 B0 0 cr by rw [hw0];exact (show At (w.alloc (.cells cr.toArray 27)) B0 0 cr from At.fresh _ cr _ (by simp [hB0])))
 have FR:=hid (show Fr B0 w w0 by rw [hw0,hB0];exact (Fr.start w).alloc _)
 have FR0:=hid FR.out.le
 have hZB0:B0≤B0:=Nat.le_refl _
 have HB0:=hid hB0
 go_enter Tryz.func3,Tryz.ntmps3
 go_upto_region 1 with fail
 rw [←hw0,←hB0]
 clear hw0 hB0
 have HA1:=hid (fun W (hW:BksAt W v l)=>alloc_q total l v W hW)
 go_upto_region 2 with (go_at_call 7;refine (HA1.out _ (HFB.out _ (by rw [←HB0.out];exact FR.out))).mono ?_;rintro e wa ⟨va,⟨ac,al⟩,hA,rfl,hra,hb⟩;replace AB0:=hid (AB0.out.below hb);replace FR:=hid (FR.out.step hb))
 have HA2:=hid (fun W (hW:BksAt W v l)=>ralloc_q total l v (ac,al) hA W hW)
 have HRA:=hid hra
 clear hra hb hA
 go_upto_region 3 with (go_at_call 8;refine (HA2.out _ (HFB.out _ (by rw [←HB0.out];exact FR.out))).mono ?_;rintro e wb ⟨vb,rfl,hrb,hb⟩;replace AB0:=hid (AB0.out.below hb);replace FR:=hid (FR.out.step hb))
 have HRB:=hid hrb
 replace HRA:=hid (Rd.below HRA.out hb)
 replace FR0:=hid FR.out.le
 clear hrb hb
 go_upto_region 4 with (first|(refine wpList_load_mid rfl _ _ rfl B0 0 rfl cr _ AB0.out.range Tryz.underlying27 rfl (qR V_cr.out) ?_)|(go_at_call 9;refine (HX1.out _ (HFB.out _ (by rw [←HB0.out];exact FR.out))).mono ?_;rintro e wd ⟨vx,rfl,hrx,hb⟩;replace AB0:=hid (AB0.out.below hb);replace FR:=hid (FR.out.step hb)))
 have HRX:=hid hrx
 replace HRA:=hid (Rd.below HRA.out hb)
 replace HRB:=hid (Rd.below HRB.out hb)
 clear hrx hb
 go_upto_region 5 with (first|(refine wpList_load_mid rfl _ _ rfl B0 0 rfl cr _ AB0.out.range Tryz.underlying27 rfl (qR V_cr.out) ?_)|(go_at_call 10;refine (HX2.out _ (HFB.out _ (by rw [←HB0.out];exact FR.out))).mono ?_;rintro e we ⟨vy,rfl,hry,hb⟩;replace AB0:=hid (AB0.out.below hb);replace FR:=hid (FR.out.step hb)))
 have HRY:=hid hry
 replace HRA:=hid (Rd.below HRA.out hb)
 replace HRB:=hid (Rd.below HRB.out hb)
 replace HRX:=hid (Rd.below HRX.out hb)
 clear hry hb
 obtain ⟨Aa,ca,rfl⟩:=Rd.form HRA.out
 obtain ⟨Ab,cb,rfl⟩:=Rd.form HRB.out
 obtain ⟨Ax,cx,rfl⟩:=Rd.form HRX.out
 obtain ⟨Ay,cy,rfl⟩:=Rd.form HRY.out
 try simp only at HRA HRB HRX HRY ⊢
 have hza:=HRA.out.2.1
 have hzx:=HRX.out.2.1
 obtain ⟨na,hna⟩:∃ n,n=al.length:=⟨_,rfl⟩
 obtain ⟨nx,hnx⟩:∃ n,n=xl.length:=⟨_,rfl⟩
 rw [←hna] at hza HRA HRB ⊢
 rw [←hnx] at hzx HRX HRY ⊢
 have HNA:=hid hna
 have HNX:=hid hnx
 clear hna hnx
 go_wp2
 go_loopg [15] na (fun m iv wr=>∃ k:Nat,iv=.int .i64 (k:Int)∧k≤na∧na≤m+k∧Fr B0 w wr∧Below we.heap.size we wr)
 case atStart=>exact ⟨0,rfl,by omega,by omega,FR.out,Below.refl _ _⟩
 case round =>
  clear FR FR0 AB0
  obtain ⟨k,rfl,hk,hm,hF,hbe⟩:=hrel
  have FR:=hid hF
  have FR0:=hid hF.le
  have HBE:=hid hbe
  have FW:=hid (Fr.start wr)
  clear hF hbe
  by_cases hlt:k<na
  ·obtain ⟨s,hs⟩:∃ s,al[k]?=some s:=⟨al[k]'(by rw [←HNA.out];exact hlt),by simp [←HNA.out,hlt]⟩
   obtain ⟨ga,oa,hAa,hca⟩:=rd_some HRA.out (by omega)
   obtain ⟨gb,ob,hAb,hcb⟩:=rd_some HRB.out (by omega)
   subst hAa hAb
   obtain ⟨sa,V_sa⟩:∃ c:List Value,Hid (c=s.cells):=⟨_,hid rfl⟩
   have RA:=hid (show wr.rangeAt ga (oa+k*5) sa from fun j u hu=>by rw [Nat.add_assoc];exact cU (hca _ u (cellsS_get al k s hs j u (by rw [←V_sa.out];exact hu))) HBE.out)
   have RB:=hid (show wr.rangeAt gb (ob+k*5) sa from fun j u hu=>by rw [Nat.add_assoc];exact cU (hcb _ u (cellsS_get al k s hs j u (by rw [←V_sa.out];exact hu))) HBE.out)
   clear hs hca hcb
   go_upto_region 10 with fail
   refine wfn [] [(59,.slice (some ⟨ga,oa,none⟩) na ca),(60,.int .i64 (k:Int)),(61,.pointer (some ⟨ga,oa+k*5,none⟩)),(62,.agg sa.toArray),(63,.slice (some ⟨gb,ob,none⟩) na cb),(64,.int .i64 (k:Int)),(65,.pointer (some ⟨gb,ob+k*5,none⟩)),(66,.agg sa.toArray),(67,.bool false)] _ (by simp only [zz4,zz5,zq];rfl) (by kernel_rfl) (by kernel_rfl) rfl ?_ ?_ ?_ ?_
   ·intro W' hW'
    have ra:=ranges_up RA.out hW'
    have rb:=ranges_up RB.out hW'
    iterate 3 (refine fxo ?_ ?_;(go_big_quiet_step (fail);(try simp only [zq]);exact wqn rfl))
    refine fxo (wlq (by rfl) _ _ rfl _ _ rfl _ _ ra Tryz.underlying37 rfl (sizeSh V_sa.out) (wqn (by simp only [zq]))) ?_
    iterate 3 (refine fxo ?_ ?_;(go_big_quiet_step (fail);(try simp only [zq]);exact wqn rfl))
    refine fxo (wlq (by rfl) _ _ rfl _ _ rfl _ _ rb Tryz.underlying37 rfl (sizeSh V_sa.out) (wqn (by simp only [zq]))) ?_
    refine fxo (wqs (by rfl) rfl rfl rfl (by kernel_rfl) (neS V_sa.out) (wqn (by simp only [zq]))) ?_
    exact fxn
   ·exact oN
   ·exact oN
   intro β wx1 E
   replace FR:=hid (FR.out.fnw E rfl)
   replace FW:=hid (FW.out.fnw E rfl)
   have hE:=E.below rfl
   simp only [nP,zr,zq]
   replace FR0:=hid FR.out.le
   clear E
   go_wp2
   go_roundg (gk - 1)
   case measure=>omega
   case rel=>exact ⟨k+1,by go_num,by omega,by omega,FR.out,HBE.out.trans (FW.out.below.mono HBE.out.size)⟩
  ·obtain ⟨wh,hwh⟩:∃ x,x=wr:=⟨_,rfl⟩
   rw [←hwh] at FR HBE ⊢
   have HBX:=hid (Rd.below HRX.out HBE.out)
   have HBY:=hid (Rd.below HRY.out HBE.out)
   clear hwh FW FR0 hk hm HRX HRY HRA HRB HBE
   go_wp2
   go_loopg [16] nx (fun m iv wr=>∃ k:Nat,iv=.int .i64 (k:Int)∧k≤nx∧nx≤m+k∧Fr B0 w wr∧Below wh.heap.size wh wr)
   case atStart=>exact ⟨0,rfl,by omega,by omega,FR.out,Below.refl _ _⟩
   case round =>
    clear FR
    obtain ⟨k,rfl,hk,hm,hF,hbe⟩:=hrel
    have FR:=hid hF
    have FR0:=hid hF.le
    have HBE:=hid hbe
    have FW:=hid (Fr.start wr)
    clear hF hbe
    by_cases hlx:k<nx
    ·obtain ⟨s,hs⟩:∃ s,xl[k]?=some s:=⟨xl[k]'(by rw [←HNX.out];exact hlx),by simp [←HNX.out,hlx]⟩
     obtain ⟨gx,ox,hAx,hcx⟩:=rd_some HBX.out (by omega)
     obtain ⟨gy,oy,hAy,hcy⟩:=rd_some HBY.out (by omega)
     subst hAx hAy
     have HVS:=hid (HVX.out s (List.mem_of_getElem? hs))
     obtain ⟨ka,V_ka⟩:∃ c:List Value,Hid (c=ratZ s.1 s.2):=⟨_,hid rfl⟩
     have RA:=hid (show wr.rangeAt gx (ox+k*66) ka from fun j u hu=>by rw [Nat.add_assoc];exact cU (hcx _ u (cellsQ_get xl k s hs j u (by rw [←V_ka.out];exact hu))) HBE.out)
     have RB:=hid (show wr.rangeAt gy (oy+k*66) ka from fun j u hu=>by rw [Nat.add_assoc];exact cU (hcy _ u (cellsQ_get xl k s hs j u (by rw [←V_ka.out];exact hu))) HBE.out)
     clear hs hcx hcy
     go_upto_region 15 with fail
     refine wfn [] [(74,.slice (some ⟨gx,ox,none⟩) nx cx),(75,.int .i64 (k:Int)),(76,.pointer (some ⟨gx,ox+k*66,none⟩)),(77,.agg ka.toArray),(78,.slice (some ⟨gy,oy,none⟩) nx cy),(79,.int .i64 (k:Int)),(80,.pointer (some ⟨gy,oy+k*66,none⟩)),(81,.agg ka.toArray),(82,.bool false)] _ (by simp only [zz4,zz5,zq];rfl) (by kernel_rfl) (by kernel_rfl) rfl ?_ ?_ ?_ ?_
     ·intro W' hW'
      have ra:=ranges_up RA.out hW'
      have rb:=ranges_up RB.out hW'
      iterate 3 (refine fxo ?_ ?_;(go_big_quiet_step (fail);(try simp only [zq]);exact wqn rfl))
      refine fxo (wlq (by rfl) _ _ rfl _ _ rfl _ _ ra Tryz.underlying27 rfl (qR V_ka.out) (wqn (by simp only [zq]))) ?_
      iterate 3 (refine fxo ?_ ?_;(go_big_quiet_step (fail);(try simp only [zq]);exact wqn rfl))
      refine fxo (wlq (by rfl) _ _ rfl _ _ rfl _ _ rb Tryz.underlying27 rfl (qR V_ka.out) (wqn (by simp only [zq]))) ?_
      refine fxo (wqs (by rfl) rfl rfl rfl (by kernel_rfl) (neQ V_ka.out HVS.out) (wqn (by simp only [zq]))) ?_
      exact fxn
     ·exact oN
     ·exact oN
     intro β wx1 E
     replace FR:=hid (FR.out.fnw E rfl)
     replace FW:=hid (FW.out.fnw E rfl)
     have hE:=E.below rfl
     simp only [nP,zr,zq]
     replace FR0:=hid FR.out.le
     clear E
     go_wp2
     go_roundg (gk - 1)
     case measure=>omega
     case rel=>exact ⟨k+1,by go_num,by omega,by omega,FR.out,HBE.out.trans (FW.out.below.mono HBE.out.size)⟩
    ·clear hk hm FW HBE
     go_upto_region 17 with fail
     refine wfn [] [(83,.bool true),(84,.bool true),(85,v),(86,.int .i64 ck),(87,v),(88,.int .i64 ck),(89,.bool true),(90,.bool true),(91,.bool true),(92,.int .i64 ac),(93,.int .i64 ac),(94,.bool true),(95,.bool true),(96,.bool true),(97,.int .i64 xc),(98,.int .i64 xc),(99,.bool true),(100,.bool true),(6,.bool true)] _ (by simp only [zz4,zz5,zq];rfl) (by kernel_rfl) (by kernel_rfl) rfl ?_ ?_ ?_ ?_
     ·intro W' hW'
      refine fxo ?_ ?_;(go_big_quiet_step ((go_at_call 11;exact Calls.below_of (known_any _)));(try simp only [zq]);exact wqn rfl)
      iterate 2 (refine fxo ?_ ?_;(go_big_quiet_step (fail);(try simp only [zq]);exact wqn rfl))
      refine fxo ?_ ?_;(go_big_quiet_step ((go_at_call 12;exact Calls.below_of (HC1.out _ (HFB.out _ (by rw [←HB0.out];exact FR.out.step (hW'.trans ((qbG _ _ _).mono hW'.size)))))));(try simp only [zq]);exact wqn rfl)
      refine fxo ?_ ?_;(go_big_quiet_step (fail);(try simp only [zq]);exact wqn rfl)
      refine fxo ?_ ?_;(go_big_quiet_step ((go_at_call 13;exact Calls.below_of (HC2.out _ (HFB.out _ (by rw [←HB0.out];exact FR.out.step (hW'.trans ((qbG _ _ _).mono hW'.size)))))));(try simp only [zq]);exact wqn rfl)
      iterate 13 (refine fxo ?_ ?_;(go_big_quiet_step (fail);(try simp only [zq]);exact wqn rfl))
      exact fxn
     ·exact oN
     ·exact oN
     intro β wx1 E
     replace FR:=hid (FR.out.fnw E rfl)
     have hE:=E.below rfl
     simp only [nP,zr,zq]
     replace FR0:=hid FR.out.le
     clear E
     go_wp2
     go_ret
     exact ⟨rfl,by rw [←HB0.out];exact FR.out.below⟩
end Go.Proofs.YtmcekgapelanhaaGreat
