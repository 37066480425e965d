import Derived.Test.YtemoddmadfoaiaaGreatDwA
import Derived.Deep.CutRange
set_option linter.unusedVariables false
set_option linter.unusedSimpArgs false
set_option maxRecDepth 100000
set_option maxHeartbeats 8000000
namespace Go.Proofs.YtemoddmadfoaiaaGreat
open Go.RowKit Big Reg Al Ga Dl
open Lib (hid)
def ann:ByteArray:=⟨#[97,110,110]⟩
def tA:Tk:=tkO ⟨#[97]⟩ 1 1000 0
def tB:Tk:=tkO ⟨#[98]⟩ 2 0 3
def nA:Nt:=⟨⟨#[97]⟩,⟨#[]⟩,ann,1,3,1000,[⟨⟨#[]⟩,ann,0,3⟩]⟩
def nB:Nt:=⟨⟨#[98]⟩,⟨#[]⟩,ann,2,3,900,[⟨⟨#[]⟩,ann,0,3⟩]⟩
theorem jcK:dealL [] [tA,tB] (3,1) (3,1) 0 0=.ok ([⟨⟨#[]⟩,ann,0,6⟩],[nA,nB]):=by kernel_rfl
theorem jdL:okT [tA,tB]=true:=by decide +kernel
def tC:Tk:=tkO ⟨#[97]⟩ 4 1000 0
def lC:Lot:=⟨⟨#[]⟩,ann,0,9⟩
def nC:Nt:=⟨⟨#[97]⟩,⟨#[]⟩,ann,4,4,1000,[⟨⟨#[]⟩,ann,0,4⟩]⟩
theorem jdX:dealL [lC] [tC] (3,1) (3,1) 0 0=.ok ([⟨⟨#[]⟩,ann,0,5⟩],[nC]):=by kernel_rfl
theorem okT_c:okT [tC]=true:=by decide +kernel
def Dld (b:Nat) (l:List Lot) (N:List Nt) (v:Value) (W:World):Prop:=∃ v' bn,v=.tuple #[.agg #[v'],.slice (some ⟨bn,0,none⟩) N.length N.length,.int .i64 0]∧Own W b v' l∧NtsAt W bn N∧b≤bn∧bn<W.heap.size
theorem Dld.upB {b:Nat} {l:List Lot} {N:List Nt} {v:Value} {x y:World} (h:Dld b l N v x) (hb:Below x.heap.size x y):Dld b l N v y:=by
 obtain ⟨v',bn,e,h1,h2,h3,h4⟩:=h
 exact ⟨v',bn,e,h1.below hb,h2.below hb,h3,by have:=hb.size;omega⟩
theorem Dld.upG {b:Nat} {l:List Lot} {N:List Nt} {v:Value} {x y:World} {X:Nat} (h:Dld b l N v x) (hg:x.grownBy y (some X)) (hX:X<b):Dld b l N v y:=by
 obtain ⟨v',bn,e,h1,h2,h3,h4⟩:=h
 exact ⟨v',bn,e,World.ownsRow.kept h1 hg (.inr fun e=>by have:=(h1.lt X e).1;omega),h2.grown hg (by omega),h3,by have:=hg.size;omega⟩
theorem pc3:Pc ((3,1):Qn):=⟨⟨by decide +kernel,by decide +kernel,by decide,by decide⟩,by decide⟩
theorem Dld.nts {b bn n m:Nat} {l:List Lot} {N:List Nt} {v e:Value} {W:World} (h:Dld b l N (.tuple #[.agg #[v],.slice (some ⟨bn,0,none⟩) n m,e]) W):Own W b v l∧NtsAt W bn N∧b≤bn∧bn<W.heap.size:=by
 obtain ⟨v',bn',he,h1,h2,h3,h4⟩:=h
 simp at he
 obtain ⟨rfl,⟨rfl,_⟩,_⟩:=he
 exact ⟨h1,h2,h3,h4⟩
theorem NtsAt.cel {W:World} {bn k:Nat} {N:List Nt} {x:Nt} (h:NtsAt W bn N) (hx:N[k]?=some x) {p q:Nat} (hp:p=k*7+4) (hq:q=k*7+5):W.cell? ⟨bn,p,none⟩=some (.int .i64 x.units)∧W.cell? ⟨bn,q,none⟩=some (.int .i64 x.money):=by
 obtain ⟨v,h1,_⟩:=h k x hx
 subst hp hq
 exact ⟨h1.cell (j:=4) rfl,h1.cell (j:=5) rfl⟩
theorem jbI {W:World} {b g o q n:Nat} {x:Lot} (h:Own W b (.slice (some ⟨g,o,none⟩) n q) [x]):W.cell? ⟨g,o+3,none⟩=some (.int .i64 x.units):=by
 obtain ⟨_,_,A,cap,he,h3⟩:=h.lots
 obtain ⟨g',o',rfl,h4⟩:=h3 (by simp)
 simp at he
 obtain ⟨⟨rfl,rfl⟩,_⟩:=he
 exact h4 3 _ rfl
theorem quN {W:World} {l:List Lot} (hn:0<l.length) (h64:l.length≤64):LotsAt (W.alloc (.cells (cellsL l).toArray 56)) (.slice (some ⟨W.heap.size,0,none⟩) l.length l.length) l:=by
 have h:=(At.fresh W (cellsL l) 56 rfl).range
 refine ⟨by rw [qbT],by omega,_,_,rfl,fun _=>⟨_,0,rfl,fun k u hu=>?_⟩⟩
 have:=h k u hu;rwa [Nat.zero_add] at this ⊢
theorem qyD {W:World}:LotsAt W (.slice none (([]:List Lot).length) 0) []:=(Own.nil W 0).lots
theorem qwB:Tryz.prog.built 40 []=some #[.slice none 0 0]:=by kernel_rfl
theorem qtH {W:World} {ts:List Tk} (hn:0<ts.length) (h64:ts.length≤64):TksAt (W.alloc (.cells (cellsT ts).toArray 60)) (.slice (some ⟨W.heap.size,0,none⟩) ts.length ts.length) ts:=by
 have h:=(At.fresh W (cellsT ts) 60 rfl).range
 refine ⟨by rw [qrY],by omega,_,_,rfl,fun _=>⟨_,0,rfl,fun k u hu=>?_⟩⟩
 have:=h k u hu;rwa [Nat.zero_add] at this ⊢
theorem qzU (w:World) :
  Calls Tryz.prog 13 #[] w fun e w'=>e=.returned (.bool true)∧Below w.heap.size w w':=by
 obtain ⟨cR,V_cR⟩:∃ c:List Value,Hid (c=rat false 3 false 1):=⟨_,hid rfl⟩
 have HR:=hid (fun W=>jcZ (cR:=cR) (x:=3) (y:=1) (d:=1) rfl (by decide) (by rw [V_cR.out];kernel_rfl) (by decide) (by decide) (by decide) W)
 obtain ⟨B0,hB0⟩:∃ B,B=w.heap.size:=⟨_,rfl⟩
 have FR:=hid (show Fr B0 w w by rw [hB0];exact Fr.start w)
 have FR0:=hid FR.out.le
 have hZB0:B0≤B0:=Nat.le_refl _
 have HB0:=hid hB0
 go_enter Tryz.func13,Tryz.ntmps13
 go_upto_region 1 with fail
 clear hB0
 refine wfn [⟨true,1,1,2,0,0,27,9,cR,0,cR,[]⟩] [(9,.agg cR.toArray)] _ (by simp only [zz4,zz5,zq];rfl) (by kernel_rfl) (by kernel_rfl) rfl ?_ ?_ ?_ ?_
 ·intro W' hW'
  refine fxo ?_ ?_;(go_big_quiet_step ((go_at_call 24;exact qaA (HR.out _)));(try simp only [zq]);exact wqn rfl)
  iterate 2 (refine fxs (by rfl) ?_)
  exact fxn
 ·exact oP _ _ (Tryz.alR (qR V_cR.out)) (oN)
 ·exact oP _ _ (stw rfl (qR V_cR.out) (qfI V_cR.out) (fun _=>rfl)) (oN)
 intro β wx1 E
 replace FR:=hid (FR.out.fnw E rfl)
 obtain ⟨b1,hb1⟩:∃ b,b=β 1:=⟨_,rfl⟩
 have eb1:=E.atNew mms rfl
 simp only at eb1
 rw [←hb1] at eb1
 have hZb1:B0≤b1:=by have h1:=eb1.1;have h2:=FR0.out;omega
 have Ab1:=hid eb1.2
 simp only [nP,zr,zq]
 rw [←hb1]
 replace FR0:=hid FR.out.le
 clear E eb1 hb1
 go_upto_region 2 with fail
 have HB1:=hid (show Below w.heap.size w wx1 by have:=FR.out.below;rwa [HB0.out] at this)
 refine qdY [(0,11,.agg #[.slice none 0 0]),(4,15,.agg cR.toArray),(5,16,.agg cR.toArray)] [(1,[]),(2,[]),(3,[])] 6 11 12 [7,8,9,10] [13,14] 17 2 40 (.tmp 2) (.tmp 18) #[.slice none 0 0] undef (by kernel_rfl) (by kernel_rfl) (by rfl) (by rfl) (by rfl) (by rfl) (by rfl) (by rfl) (by rfl) (by rfl) (by rfl) (by rfl) (by rfl) Tryz.layRg (by kernel_rfl) (by simp only [putsA,List.foldl_cons,List.foldl_nil,zq]) ?_ ?_
 ·have r1:=fun W (h:Below wx1.heap.size wx1 W)=>(Ab1.out.below h).read (P:=Tryz.prog) Tryz.underlying27 rfl (qR V_cR.out)
  refine ⟨⟨_,rfl,rfl,.inl ⟨by rfl,fun W _=>qcV rfl rfl qwB⟩⟩,?_⟩
  simp only [zq]
  refine ⟨⟨_,rfl,rfl,.inl ⟨by rfl,fun W hW=>qaK rfl rfl (r1 W hW)⟩⟩,?_⟩
  simp only [zq]
  refine ⟨⟨_,rfl,rfl,.inl ⟨by rfl,fun W hW=>qaK rfl rfl (r1 W hW)⟩⟩,?_⟩
  simp only [zq]
  exact trivial
 ·simp only [putsA,List.foldl_cons,List.foldl_nil,zq]
  refine ⟨_,_,by rfl,by rfl,by rfl,fun v _=>v=.agg tA.cells.toArray,fun _ _ _ h=>h,fun u W hW _=>GY.callOf (f:=48) (args:=#[.string ⟨#[97]⟩,.int .i64 1,.int .i64 1000,.int .i64 0]) (by simp [execOp,Act.eval,go_sem]) ((qjX _ _ _ _ W).mono ?_),?_⟩
  ·rintro e w3 ⟨rfl,hb⟩
   exact ⟨_,rfl,hb,rfl⟩
  rintro v ⟨_,rfl⟩
  refine ⟨[],_,rfl,fun _=>trivial,fun u=>by simp only [putsA,List.foldl_cons,List.foldl_nil,zq];rfl,fun u p=>by simp only [putsA,List.foldl_cons,List.foldl_nil,zq],?_⟩
  refine ⟨_,_,by rfl,by rfl,by rfl,fun v _=>v=.agg tB.cells.toArray,fun _ _ _ h=>h,fun u W hW _=>GY.callOf (f:=48) (args:=#[.string ⟨#[98]⟩,.int .i64 2,.int .i64 0,.int .i64 3]) (by simp [execOp,Act.eval,go_sem]) ((qjX _ _ _ _ W).mono ?_),?_⟩
  ·rintro e w3 ⟨rfl,hb⟩
   exact ⟨_,rfl,hb,rfl⟩
  rintro v ⟨_,rfl⟩
  refine ⟨[],_,rfl,fun _=>trivial,fun u=>by simp only [putsA,List.foldl_cons,List.foldl_nil,zq];rfl,fun u p=>by simp only [putsA,List.foldl_cons,List.foldl_nil,zq],?_⟩
  refine ⟨_,_,by rfl,by rfl,by rfl,fun v W=>TksAt W v [tA,tB],fun v W ob h=>h.below (qaQ W ob),fun u W hW _=>GY.rowB (s:=13) (e:=60) [.agg tA.cells.toArray,.agg tB.cells.toArray] (by rfl) (by simp [Act.eval]) (by rfl) (by decide) (by decide) (by intro x hx;simp only [List.mem_cons,List.not_mem_nil,or_false] at hx;rcases hx with rfl|rfl<;>rfl) (by decide) Tryz.underlying42 (by kernel_rfl) (by kernel_rfl) ⟨qaQ W _,qtH (ts:=[tA,tB]) (by decide) (by decide)⟩,?_⟩
  rintro v ⟨_,hv0⟩
  refine ⟨[],_,rfl,fun _=>trivial,fun u=>by simp only [putsA,List.foldl_cons,List.foldl_nil,zq];rfl,fun u p=>by simp only [putsA,List.foldl_cons,List.foldl_nil,zq],?_⟩
  clear hv0
  unfold chY TailH
  refine ⟨fun b v W=>Dld b [⟨⟨#[]⟩,ann,0,6⟩] [nA,nB] v W,fun u W hW hK=>GY.callOf (f:=19) (args:=#[.agg #[.slice none 0 0],v,.agg cR.toArray,.agg cR.toArray,.int .i64 0,.int .i64 0]) (by simp [execOp,Act.eval,go_sem]) ((qnP (A:=none) (cap:=0) (pl:=0) (l:=[]) (ts:=[tA,tB]) (offer:=(3,1)) (bid:=(3,1)) (by rw [V_cR.out];rfl) (by rw [V_cR.out];rfl) pc3 pc3 rfl (by decide) (by decide) (by decide) (by decide +kernel) jdL (fun _=>rfl) W qyD hK).mono ?_),fun b v x y h hb=>h.upB hb,fun b v x y X h hg hX=>h.upG hg hX,?_⟩
  ·rintro e w3 ⟨hb,h⟩
   rw [jcK] at h
   obtain ⟨v',bn,rfl,h1,h2,h3,h4⟩:=h
   exact ⟨_,rfl,hb,v',bn,rfl,h1,h2,h3,h4⟩
  rintro b v2 ⟨_,v',bn,rfl,h1,_,_,_⟩
  have ho1:=qeJ h1
  obtain ⟨A1,q1,rfl⟩:=Rd.form h1.lots
  refine ⟨[(7,10,.tuple #[.agg #[.slice A1 1 q1],.slice (some ⟨bn,0,none⟩) 2 2,.int .i64 0]),(8,18,.agg #[.slice A1 1 q1]),(9,19,.slice (some ⟨bn,0,none⟩) 2 2),(10,20,.int .i64 0)],[(13,3,.slice (some ⟨bn,0,none⟩) 2 2),(14,4,.int .i64 0)],#[.slice A1 1 q1],_,rfl,rfl,fun u=>?_,fun u=>by simp only [putsA,List.foldl_cons,List.foldl_nil,zq];rfl,fun u p=>by simp only [putsA,List.foldl_cons,List.foldl_nil,zq],fun p=>by rfl,fun p=>by rfl,by rfl,ho1,fun X W hW hR hA=>⟨?_,?_⟩⟩
  ·skip
   refine ⟨⟨_,rfl,rfl,.inl ⟨by rfl,fun _ _=>by rfl⟩⟩,?_⟩
   simp only [zq]
   refine ⟨⟨_,rfl,rfl,.inl ⟨by rfl,fun _ _=>by rfl⟩⟩,?_⟩
   simp only [zq]
   refine ⟨⟨_,rfl,rfl,.inl ⟨by rfl,fun _ _=>by rfl⟩⟩,?_⟩
   simp only [zq]
   refine ⟨⟨_,rfl,rfl,.inl ⟨by rfl,fun _ _=>by rfl⟩⟩,?_⟩
   simp only [zq]
   exact trivial
  ·skip
   refine ⟨⟨_,rfl,rfl,.inl ⟨by rfl,fun _ _=>by rfl⟩⟩,?_⟩
   simp only [zq]
   refine ⟨⟨_,rfl,rfl,.inl ⟨by rfl,fun _ _=>by rfl⟩⟩,?_⟩
   simp only [zq]
   exact trivial
  simp only [putsA,List.foldl_cons,List.foldl_nil,zq]
  have HW2:=hid (HB1.out.trans (hW.mono HB1.out.size))
  have HR2:=hid hR
  have HWX:=hid hW
  clear hW hR h1 hA
  go_upto_region 4 with fail
  obtain ⟨g,hg⟩:∃ g,g=W.heap.size:=⟨_,rfl⟩
  obtain ⟨W2,hW2⟩:∃ x,x=((W.alloc (.cells #[.string ⟨#[]⟩,.string ⟨#[97,110,110]⟩,.int .i64 0,.int .i64 9] 56)).alloc (.cells #[.slice (some ⟨W.heap.size,0,none⟩) 1 1] 40)):=⟨_,rfl⟩
  rw [←hW2,←hg]
  have hb2:Below W.heap.size W W2:=by rw [hW2];exact ((Below.refl _ _).alloc (Nat.le_refl _) _).alloc (by simp) _
  have HLC:=hid (show LotsAt W2 (.slice (some ⟨g,0,none⟩) [lC].length 1) [lC] by rw [hW2,hg];exact (quN (l:=[lC]) (by decide) (by decide)).below (qaQ _ _))
  have ARG:=hid (show At W2 (g+1) 0 [.slice (some ⟨g,0,none⟩) 1 1] by rw [hW2,hg];exact At.fresh _ [.slice (some ⟨W.heap.size,0,none⟩) 1 1] _ (by simp))
  have AB2:=hid (show At W2 b1 0 cR from (Ab1.out.below HWX.out).below hb2)
  have HN2:=hid (HR2.out.nts.2.1.below hb2)
  have HB2:=hid (HW2.out.trans (hb2.mono HW2.out.size))
  clear hW2 hg hb2 HR2 HWX
  refine qdY [(0,26,.agg #[.slice (some ⟨g,0,none⟩) 1 1]),(3,29,.agg cR.toArray),(4,30,.agg cR.toArray)] [(1,[]),(2,[])] 5 10 11 [6,7,8,9] [12,13] 31 6 40 (.tmp 6) (.tmp 32) #[.slice none 0 0] undef (by kernel_rfl) (by kernel_rfl) (by rfl) (by rfl) (by rfl) (by rfl) (by rfl) (by rfl) (by rfl) (by rfl) (by rfl) (by rfl) (by rfl) Tryz.layRg (by kernel_rfl) (by simp only [putsA,List.foldl_cons,List.foldl_nil,zq]) ?_ ?_
  ·have r0:=fun V (h:Below W2.heap.size W2 V)=>(ARG.out.below h).read (P:=Tryz.prog) Tryz.underlying40 rfl (by kernel_rfl)
   have r1:=fun V (h:Below W2.heap.size W2 V)=>(AB2.out.below h).read (P:=Tryz.prog) Tryz.underlying27 rfl (qR V_cR.out)
   refine ⟨⟨_,rfl,rfl,.inl ⟨by rfl,fun V hV=>qaK rfl rfl (r0 V hV)⟩⟩,?_⟩
   simp only [zq]
   refine ⟨⟨_,rfl,rfl,.inl ⟨by rfl,fun W hW=>qaK rfl rfl (r1 W hW)⟩⟩,?_⟩
   simp only [zq]
   refine ⟨⟨_,rfl,rfl,.inl ⟨by rfl,fun W hW=>qaK rfl rfl (r1 W hW)⟩⟩,?_⟩
   simp only [zq]
   exact trivial
  simp only [putsA,List.foldl_cons,List.foldl_nil,zq]
  refine ⟨_,_,by rfl,by rfl,by rfl,fun v _=>v=.agg tC.cells.toArray,fun _ _ _ h=>h,fun u W hW _=>GY.callOf (f:=48) (args:=#[.string ⟨#[97]⟩,.int .i64 4,.int .i64 1000,.int .i64 0]) (by simp [execOp,Act.eval,go_sem]) ((qjX _ _ _ _ W).mono ?_),?_⟩
  ·rintro e w3 ⟨rfl,hb⟩
   exact ⟨_,rfl,hb,rfl⟩
  rintro v ⟨_,rfl⟩
  refine ⟨[],_,rfl,fun _=>trivial,fun u=>by simp only [putsA,List.foldl_cons,List.foldl_nil,zq];rfl,fun u p=>by simp only [putsA,List.foldl_cons,List.foldl_nil,zq],?_⟩
  refine ⟨_,_,by rfl,by rfl,by rfl,fun v W=>TksAt W v [tC],fun v W ob h=>h.below (qaQ W ob),fun u W hW _=>GY.rowB (s:=13) (e:=60) [.agg tC.cells.toArray] (by rfl) (by simp [Act.eval]) (by rfl) (by decide) (by decide) (by intro x hx;simp only [List.mem_cons,List.not_mem_nil,or_false] at hx;rcases hx with rfl;rfl) (by decide) Tryz.underlying42 (by kernel_rfl) (by kernel_rfl) ⟨qaQ W _,qtH (ts:=[tC]) (by decide) (by decide)⟩,?_⟩
  rintro v2 ⟨_,hv0⟩
  refine ⟨[],_,rfl,fun _=>trivial,fun u=>by simp only [putsA,List.foldl_cons,List.foldl_nil,zq];rfl,fun u p=>by simp only [putsA,List.foldl_cons,List.foldl_nil,zq],?_⟩
  clear hv0
  unfold chY TailH
  refine ⟨fun b v W=>Dld b [⟨⟨#[]⟩,ann,0,5⟩] [nC] v W,fun u W hW hK=>GY.callOf (f:=19) (args:=#[.agg #[.slice (some ⟨g,0,none⟩) 1 1],v2,.agg cR.toArray,.agg cR.toArray,.int .i64 0,.int .i64 0]) (by simp [execOp,Act.eval,go_sem]) ((qnP (A:=some ⟨g,0,none⟩) (cap:=1) (pl:=0) (l:=[lC]) (ts:=[tC]) (offer:=(3,1)) (bid:=(3,1)) (by rw [V_cR.out];rfl) (by rw [V_cR.out];rfl) pc3 pc3 rfl (by decide) (by decide) (by decide) (by decide +kernel) okT_c (fun h=>by cases h) W (HLC.out.below hW) hK).mono ?_),fun b v x y h hb=>h.upB hb,fun b v x y X h hg hX=>h.upG hg hX,?_⟩
  ·rintro e w3 ⟨hb,h⟩
   rw [jdX] at h
   obtain ⟨v',bn,rfl,h1,h2,h3,h4⟩:=h
   exact ⟨_,rfl,hb,v',bn,rfl,h1,h2,h3,h4⟩
  rintro b4 v4 ⟨_,v',bm,rfl,h1,_,_,_⟩
  have ho1:=qeJ h1
  obtain ⟨g4,o4,q4,rfl,_⟩:=LotsAt.some h1.lots (by decide)
  refine ⟨[(6,25,.tuple #[.agg #[.slice (some ⟨g4,o4,none⟩) 1 q4],.slice (some ⟨bm,0,none⟩) 1 1,.int .i64 0]),(7,32,.agg #[.slice (some ⟨g4,o4,none⟩) 1 q4]),(8,33,.slice (some ⟨bm,0,none⟩) 1 1),(9,34,.int .i64 0)],[(12,7,.slice (some ⟨bm,0,none⟩) 1 1),(13,8,.int .i64 0)],#[.slice (some ⟨g4,o4,none⟩) 1 q4],_,rfl,rfl,fun u=>?_,fun u=>by simp only [putsA,List.foldl_cons,List.foldl_nil,zq];rfl,fun u p=>by simp only [putsA,List.foldl_cons,List.foldl_nil,zq],fun p=>by rfl,fun p=>by rfl,by rfl,ho1,fun X4 W4 hW hR hA=>⟨?_,?_⟩⟩
  ·skip
   refine ⟨⟨_,rfl,rfl,.inl ⟨by rfl,fun _ _=>by rfl⟩⟩,?_⟩
   simp only [zq]
   refine ⟨⟨_,rfl,rfl,.inl ⟨by rfl,fun _ _=>by rfl⟩⟩,?_⟩
   simp only [zq]
   refine ⟨⟨_,rfl,rfl,.inl ⟨by rfl,fun _ _=>by rfl⟩⟩,?_⟩
   simp only [zq]
   refine ⟨⟨_,rfl,rfl,.inl ⟨by rfl,fun _ _=>by rfl⟩⟩,?_⟩
   simp only [zq]
   exact trivial
  ·skip
   refine ⟨⟨_,rfl,rfl,.inl ⟨by rfl,fun _ _=>by rfl⟩⟩,?_⟩
   simp only [zq]
   refine ⟨⟨_,rfl,rfl,.inl ⟨by rfl,fun _ _=>by rfl⟩⟩,?_⟩
   simp only [zq]
   exact trivial
  simp only [putsA,List.foldl_cons,List.foldl_nil,zq]
  have HB4:=hid (HB2.out.trans (hW.mono HB2.out.size))
  have hN4:=HN2.out.below hW
  obtain ⟨c0,c1⟩:=hN4.cel (k:=0) (x:=nA) rfl (p:=4) (q:=5) rfl rfl
  obtain ⟨_,c2⟩:=hN4.cel (k:=1) (x:=nB) rfl (p:=11) (q:=12) rfl rfl
  obtain ⟨hOw,hNm,_,_⟩:=Dld.nts hR
  obtain ⟨c3,c4⟩:=hNm.cel (k:=0) (x:=nC) rfl (p:=4) (q:=5) rfl rfl
  have c5:=hA.cell0
  have c6:=jbI hOw
  change W4.cell? ⟨bn,4,none⟩=some (.int .i64 3) at c0
  change W4.cell? ⟨bn,5,none⟩=some (.int .i64 1000) at c1
  change W4.cell? ⟨bn,12,none⟩=some (.int .i64 900) at c2
  change W4.cell? ⟨bm,4,none⟩=some (.int .i64 4) at c3
  change W4.cell? ⟨bm,5,none⟩=some (.int .i64 1000) at c4
  change W4.cell? ⟨g4,o4+3,none⟩=some (.int .i64 5) at c6
  clear hW hR h1 hA hN4 hOw hNm ho1
  go_wp2_with fail
  refine bodyPost_ret (v:=.bool true) (by simp [results,Tryz.results13]) rfl ⟨rfl,HB4.out⟩
set_option maxHeartbeats 8000000
structure Rn where
 key:ByteArray
 nom:ByteArray
 hol:ByteArray
 kind:Int
 units:Int
 money:Int
 a:Option Addr
 n:Nat
 c:Nat
def Rn.cells (x:Rn):List Value:=[.string x.key,.string x.nom,.string x.hol,.int .i64 x.kind,.int .i64 x.units,.int .i64 x.money,.slice x.a x.n x.c]
def cellsF7 (l:List Rn):List Value:=l.flatMap Rn.cells
theorem qiL (l:List Rn):(cellsF7 l).length=l.length*7:=by
 induction l with
 | nil=>rfl
 | cons b l ih=>simp only [cellsF7,List.flatMap_cons,List.length_append,List.length_cons,Rn.cells,List.length_nil] at ih ⊢;rw [ih];omega
theorem qfH (l:List Rn) (k:Nat) (b:Rn) (h:l[k]?=some b):∀ j u,b.cells[j]?=some u→(cellsF7 l)[k*7+j]?=some u:=by
 induction l generalizing k with
 | nil=>simp at h
 | cons a l ih =>
  intro j u hu
  have hj:j<7:=by have:=(List.getElem?_eq_some_iff.1 hu).1;simpa [Rn.cells] using this
  cases k with
  | zero =>
   simp only [List.getElem?_cons_zero,Option.some.injEq] at h
   subst h
   rw [cellsF7,List.flatMap_cons,Nat.zero_mul,Nat.zero_add,List.getElem?_append_left (by simpa [Rn.cells] using hj)]
   exact hu
  | succ k =>
   rw [List.getElem?_cons_succ] at h
   rw [cellsF7,List.flatMap_cons,List.getElem?_append_right (by simp [Rn.cells];omega)]
   have:=ih k h j u hu
   rw [show (k+1)*7+j - a.cells.length=k*7+j by simp [Rn.cells];omega]
   exact this
def RnsAt (w:World) (v:Value) (l:List Rn):Prop:=Rd w 7 v l.length (cellsF7 l)
def okF7 (x:Rn):Bool:=decide (0≤x.money)&&decide (x.money≤1000000000000000)&&decide (1≤x.kind)&&decide (x.kind≤5)
def addF7 (x:Rn):Int:=if x.kind=1∨x.kind=2 then x.money else -x.money
def flowS (l:List Rn):Int:=(l.map addF7).sum
def flowR (l:List Rn):Int × Int:=if 64<l.length then (0,33) else if l.all okF7 then (flowS l,0) else (0,33)
theorem qeO {l:List Rn} {k:Nat} {x:Rn} (hx:l[k]?=some x):flowS (l.take (k+1))=flowS (l.take k)+addF7 x:=by
 unfold flowS
 rw [List.take_add_one,hx,List.map_append,List.sum_append]
 simp
theorem qnH {l:List Rn} {k:Nat} {x:Rn} (hx:l[k]?=some x) (h:okF7 x=false):flowR l=(0,33):=by
 have:l.all okF7=false:=by rw [List.all_eq_false];exact ⟨x,List.mem_of_getElem? hx,by rw [h];decide⟩
 unfold flowR
 rw [this]
 split<;>rfl
theorem qjD {l:List Rn} (h0:¬64<l.length) (h:∀ (k:Nat) (x:Rn),l[k]?=some x→okF7 x=true):flowR l=(flowS l,0):=by
 unfold flowR
 rw [if_neg h0,if_pos]
 rw [List.all_eq_true]
 intro x hx
 obtain ⟨k,hk,rfl⟩:=List.mem_iff_getElem.1 hx
 exact h k _ (List.getElem?_eq_getElem hk)
def FlowP (l:List Rn) (w:World) (e:Ending) (w':World):Prop:=e=.returned (.tuple #[.int .i64 (flowR l).1,.int .i64 (flowR l).2])∧Below w.heap.size w w'
theorem qtN (k:Int) (w:World):Calls Tryz.prog 28 #[.int .i64 k] w fun e w'=>e=.returned (.bool (decide (k=3∨k=4∨k=5)))∧Below w.heap.size w w':=by
 by_cases h1:k=3
 ·subst h1
  go_enter Tryz.func28,Tryz.ntmps28
  go_wp2
  go_ret
  exact ⟨rfl,Below.refl _ _⟩
 ·by_cases h2:k=4
  ·subst h2
   go_enter Tryz.func28,Tryz.ntmps28
   go_wp2
   go_ret
   exact ⟨rfl,Below.refl _ _⟩
  ·have b1:(k==3)=false:=beq_eq_false_iff_ne.2 h1
   have b2:(k==4)=false:=beq_eq_false_iff_ne.2 h2
   go_enter Tryz.func28,Tryz.ntmps28
   go_wp2
   go_ret
   exact ⟨qaF (by simp [h1,h2];rfl),Below.refl _ _⟩
theorem qrR (v:Value) (l:List Rn) (w:World) (h:RnsAt w v l):Calls Tryz.prog 40 #[v] w (FlowP l w):=by
 obtain ⟨A,cap,hv⟩:=Rd.form h
 have hmx:=h.2.1
 by_cases h64:64<l.length
 ·have HF:=hid (show flowR l=(0,33) by unfold flowR;rw [if_pos h64])
  obtain ⟨n,hnn⟩:∃ n,n=l.length:=⟨_,rfl⟩
  rw [←hnn] at hv h64
  have h64':(64:Int)<(n:Int):=by omega
  subst hv
  clear h hmx h64 hnn
  go_enter Tryz.func40,Tryz.ntmps40
  go_wp2
  refine bodyPost_ret (v:=.tuple #[.int .i64 0,.int .i64 33]) (by simp [results,Tryz.results40]) rfl ?_
  exact ⟨by rw [HF.out],Below.refl _ _⟩
 ·have hc0:∀ k x,l[k]?=some x→∃ g off,A=some ⟨g,off,none⟩∧∀ j u,x.cells[j]?=some u→w.cell? ⟨g,off+k*7+j,none⟩=some u:=by
   intro k x hx
   have hk:=(List.getElem?_eq_some_iff.1 hx).1
   obtain ⟨_,_,A',cap',e,h3⟩:=h
   obtain ⟨g,off,ha,hc⟩:=h3 (by omega)
   rw [hv] at e
   injection e with e1 e2 e3
   exact ⟨g,off,by rw [e1,ha],fun j u hu=>by have:=hc _ _ (qfH l k x hx j u hu);rwa [←Nat.add_assoc] at this⟩
  have HG:=hid h64
  obtain ⟨n,hnn⟩:∃ n,n=l.length:=⟨_,rfl⟩
  rw [←hnn] at hv hmx h64
  have h64':¬(64:Int)<(n:Int):=by omega
  subst hv
  have HN:=hid hnn
  have HC:=hid hc0
  clear hnn hc0 h
  go_enter Tryz.func40,Tryz.ntmps40
  go_wp2
  go_loopg [12,4] n (fun m i sv wr=>∃ (k:Nat) (s:Int),k≤n∧n - k≤m∧i=.int .i64 k∧sv=.int .i64 s∧s=flowS (l.take k)∧(∀ j x,j<k→l[j]?=some x→okF7 x=true)∧-(k*1000000000000000:Int)≤s∧s≤(k*1000000000000000:Int)∧Below w.heap.size w wr)
  case atStart=>exact ⟨0,0,by omega,by omega,rfl,rfl,rfl,fun j x hj=>absurd hj (by omega),by omega,by omega,Below.refl _ _⟩
  case round =>
   obtain ⟨k,s,hk,hm,rfl,rfl,hs,hok,hs0,hs1,hbl⟩:=hrel
   have HS:=hid hs
   have HOK:=hid hok
   have HB0:=hid hbl
   clear hs hok hbl
   by_cases hlt:k<n
   ·obtain ⟨x,hx⟩:∃ x,l[k]?=some x:=⟨l[k]'(by rw [←HN.out];exact hlt),by simp [←HN.out,hlt]⟩
    obtain ⟨g,off,rfl,hcx⟩:=HC.out k x hx
    have HX:=hid hx
    clear hx
    have c0:=qcU (hcx 0 (.string x.key) rfl) HB0.out
    have c1:=qcU (hcx 1 (.string x.nom) rfl) HB0.out
    have c2:=qcU (hcx 2 (.string x.hol) rfl) HB0.out
    have c3:=qcU (hcx 3 (.int .i64 x.kind) rfl) HB0.out
    have c4:=qcU (hcx 4 (.int .i64 x.units) rfl) HB0.out
    have c5:=qcU (hcx 5 (.int .i64 x.money) rfl) HB0.out
    have c6:=qcU (hcx 6 (.slice x.a x.n x.c) rfl) HB0.out
    rw [Nat.add_zero] at c0
    clear hcx
    go_upto_region 8 with fail
    obtain ⟨W1,hW1⟩:∃ W1,W1=wr.alloc (.cells #[.string x.key,.string x.nom,.string x.hol,.int .i64 x.kind,.int .i64 x.units,.int .i64 x.money,.slice x.a x.n x.c] 66):=⟨_,rfl⟩
    have hbW:Below wr.heap.size wr W1:=by rw [hW1];exact (Below.refl _ _).alloc (Nat.le_refl _) _
    obtain ⟨X,hX⟩:∃ X,X=wr.heap.size:=⟨_,rfl⟩
    have x3:W1.cell? ⟨X,3,none⟩=some (.int .i64 x.kind):=by rw [hW1,hX];go_cell
    have x5:W1.cell? ⟨X,5,none⟩=some (.int .i64 x.money):=by rw [hW1,hX];go_cell
    rw [←hW1,←hX]
    have HBW:=hid (HB0.out.trans (hbW.mono HB0.out.size))
    clear hW1 hbW c0 c1 c2 c3 c4 c5 c6 hX
    obtain ⟨kd,hkd⟩:∃ y,y=x.kind:=⟨_,rfl⟩
    obtain ⟨mo,hmo⟩:∃ y,y=x.money:=⟨_,rfl⟩
    rw [←hkd] at x3
    rw [←hmo] at x5
    have HKM:=hid (And.intro hkd hmo)
    clear hkd hmo
    cases hgood:okF7 x with
    | false =>
     have HR:=hid (qnH HX.out hgood)
     have hg2:(decide (0≤mo)&&decide (mo≤1000000000000000)&&decide (1≤kd)&&decide (kd≤5))=false:=by rw [HKM.out.1,HKM.out.2];exact hgood
     clear hgood
     have hcase:mo<0∨(¬mo<0∧1000000000000000<mo)∨(¬mo<0∧¬1000000000000000<mo∧kd<1)∨(¬mo<0∧¬1000000000000000<mo∧¬kd<1∧5<kd):=by
      simp only [Bool.and_eq_false_iff,decide_eq_false_iff_not] at hg2
      omega
     clear hg2
     rcases hcase with z|⟨z0,z⟩|⟨z0,z1,z⟩|⟨z0,z1,z2,z⟩
     all_goals
      go_wp2_with fail
      refine bodyPost_ret (v:=.tuple #[.int .i64 0,.int .i64 33]) (by simp [results,Tryz.results40]) rfl ?_
      exact ⟨by rw [HR.out],HBW.out⟩
    | true =>
     have hg2:(decide (0≤mo)&&decide (mo≤1000000000000000)&&decide (1≤kd)&&decide (kd≤5))=true:=by rw [HKM.out.1,HKM.out.2];exact hgood
     simp only [Bool.and_eq_true,decide_eq_true_eq] at hg2
     have HGD:=hid hgood
     clear hgood
     obtain ⟨⟨⟨g0,g1⟩,g2⟩,g3⟩:=hg2
     have z0:¬mo<0:=by omega
     have z1:¬1000000000000000<mo:=by omega
     have z2:¬kd<1:=by omega
     have z3:¬5<kd:=by omega
     have HNX:Hid (∀ j y,j<k+1→l[j]?=some y→okF7 y=true):=hid (fun j y hj hy=>by
      by_cases e:j=k
      ·subst e;rw [HX.out] at hy;injection hy with hy;subst hy;exact HGD.out
      ·exact HOK.out j y (by omega) hy)
     obtain ⟨sb,hsb⟩:∃ b,b=(decide (kd=1) || decide (kd=2)):=⟨_,rfl⟩
     have HSUB:=hid (show ∀ W,Calls Tryz.prog 58 #[.int .i64 kd] W fun e w'=>e=.returned (.bool sb)∧Below W.heap.size W w' from fun W=>by rw [hsb];exact qqD kd W)
     cases sb with
     | true =>
      have HAD:=hid (show flowS (l.take (k+1))=s+mo by rw [qeO HX.out,←HS.out,addF7,if_pos (by rw [←HKM.out.1];simpa using hsb.symm),HKM.out.2])
      clear hsb
      have wk:IntKind.i64.wrap (s+mo)=s+mo:=IntWalk.i64_in _ (by omega)
      go_wp2_with (go_at_call 58;refine (HSUB.out _).mono ?_;rintro e W2 ⟨rfl,hbn⟩;have HBN:=hid (HBW.out.trans (hbn.mono HBW.out.size));replace x5:=qcU x5 hbn;clear hbn)
      go_roundg (gk - 1)
      case measure=>omega
      case rel=>exact ⟨k+1,s+mo,by omega,by omega,by go_num,rfl,HAD.out.symm,HNX.out,by omega,by omega,HBN.out⟩
     | false =>
      have HAD:=hid (show flowS (l.take (k+1))=s - mo by rw [qeO HX.out,←HS.out,addF7,if_neg (by rw [←HKM.out.1];simpa using hsb.symm),HKM.out.2];omega)
      clear hsb
      have wk:IntKind.i64.wrap (s - mo)=s - mo:=IntWalk.i64_in _ (by omega)
      go_wp2_with (go_at_call 58;refine (HSUB.out _).mono ?_;rintro e W2 ⟨rfl,hbn⟩;have HBN:=hid (HBW.out.trans (hbn.mono HBW.out.size));replace x5:=qcU x5 hbn;clear hbn)
      go_roundg (gk - 1)
      case measure=>omega
      case rel=>exact ⟨k+1,s - mo,by omega,by omega,by go_num,rfl,HAD.out.symm,HNX.out,by omega,by omega,HBN.out⟩
   ·have hkn:k=n:=by omega
    have HR:=hid (show flowR l=(s,0) by
     rw [qjD HG.out (fun j y hy=>HOK.out j y (by have:=(List.getElem?_eq_some_iff.1 hy).1;have:=HN.out;omega) hy),HS.out,hkn,HN.out,List.take_length])
    subst hkn
    go_wp2_with fail
    refine bodyPost_ret (v:=.tuple #[.int .i64 s,.int .i64 0]) (by simp [results,Tryz.results40]) rfl ?_
    exact ⟨by rw [HR.out],HB0.out⟩
set_option maxHeartbeats 8000000
theorem qoJ (v:Value) (l:List Rn) (w:World) (h:RnsAt w v l):Calls Tryz.prog 41 #[v] w (FlowP l w):=by
 obtain ⟨A,cap,hv⟩:=Rd.form h
 have hmx:=h.2.1
 by_cases h64:64<l.length
 ·have HF:=hid (show flowR l=(0,33) by unfold flowR;rw [if_pos h64])
  obtain ⟨n,hnn⟩:∃ n,n=l.length:=⟨_,rfl⟩
  rw [←hnn] at hv h64
  have h64':(64:Int)<(n:Int):=by omega
  subst hv
  clear h hmx h64 hnn
  go_enter Tryz.func41,Tryz.ntmps41
  go_wp2
  refine bodyPost_ret (v:=.tuple #[.int .i64 0,.int .i64 33]) (by simp [results,Tryz.results41]) rfl ?_
  exact ⟨by rw [HF.out],Below.refl _ _⟩
 ·have hc0:∀ k x,l[k]?=some x→∃ g off,A=some ⟨g,off,none⟩∧∀ j u,x.cells[j]?=some u→w.cell? ⟨g,off+k*7+j,none⟩=some u:=by
   intro k x hx
   have hk:=(List.getElem?_eq_some_iff.1 hx).1
   obtain ⟨_,_,A',cap',e,h3⟩:=h
   obtain ⟨g,off,ha,hc⟩:=h3 (by omega)
   rw [hv] at e
   injection e with e1 e2 e3
   exact ⟨g,off,by rw [e1,ha],fun j u hu=>by have:=hc _ _ (qfH l k x hx j u hu);rwa [←Nat.add_assoc] at this⟩
  have HG:=hid h64
  obtain ⟨n,hnn⟩:∃ n,n=l.length:=⟨_,rfl⟩
  rw [←hnn] at hv hmx h64
  have h64':¬(64:Int)<(n:Int):=by omega
  subst hv
  have HN:=hid hnn
  have HC:=hid hc0
  clear hnn hc0 h
  go_enter Tryz.func41,Tryz.ntmps41
  go_wp2
  go_loopg [5,4] n (fun m i sv wr=>∃ (k:Nat) (s:Int),k≤n∧n - k≤m∧i=.int .i64 k∧sv=.int .i64 s∧s=flowS (l.take k)∧(∀ j x,j<k→l[j]?=some x→okF7 x=true)∧-(k*1000000000000000:Int)≤s∧s≤(k*1000000000000000:Int)∧Below w.heap.size w wr)
  case atStart=>exact ⟨0,0,by omega,by omega,rfl,rfl,rfl,fun j x hj=>absurd hj (by omega),by omega,by omega,Below.refl _ _⟩
  case round =>
   obtain ⟨k,s,hk,hm,rfl,rfl,hs,hok,hs0,hs1,hbl⟩:=hrel
   have HS:=hid hs
   have HOK:=hid hok
   have HB0:=hid hbl
   clear hs hok hbl
   by_cases hlt:k<n
   ·obtain ⟨x,hx⟩:∃ x,l[k]?=some x:=⟨l[k]'(by rw [←HN.out];exact hlt),by simp [←HN.out,hlt]⟩
    obtain ⟨g,off,rfl,hcx⟩:=HC.out k x hx
    have HX:=hid hx
    clear hx
    have c0:=qcU (hcx 0 (.string x.key) rfl) HB0.out
    have c1:=qcU (hcx 1 (.string x.nom) rfl) HB0.out
    have c2:=qcU (hcx 2 (.string x.hol) rfl) HB0.out
    have c3:=qcU (hcx 3 (.int .i64 x.kind) rfl) HB0.out
    have c4:=qcU (hcx 4 (.int .i64 x.units) rfl) HB0.out
    have c5:=qcU (hcx 5 (.int .i64 x.money) rfl) HB0.out
    have c6:=qcU (hcx 6 (.slice x.a x.n x.c) rfl) HB0.out
    rw [Nat.add_zero] at c0
    clear hcx
    have x3:=c3
    have x5:=c5
    have HBW:=HB0
    clear c0 c1 c2 c3 c4 c5 c6
    obtain ⟨kd,hkd⟩:∃ y,y=x.kind:=⟨_,rfl⟩
    obtain ⟨mo,hmo⟩:∃ y,y=x.money:=⟨_,rfl⟩
    rw [←hkd] at x3
    rw [←hmo] at x5
    have HKM:=hid (And.intro hkd hmo)
    clear hkd hmo
    cases hgood:okF7 x with
    | false =>
     have HR:=hid (qnH HX.out hgood)
     have hg2:(decide (0≤mo)&&decide (mo≤1000000000000000)&&decide (1≤kd)&&decide (kd≤5))=false:=by rw [HKM.out.1,HKM.out.2];exact hgood
     clear hgood
     have hcase:mo<0∨(¬mo<0∧1000000000000000<mo)∨(¬mo<0∧¬1000000000000000<mo∧kd<1)∨(¬mo<0∧¬1000000000000000<mo∧¬kd<1∧5<kd):=by
      simp only [Bool.and_eq_false_iff,decide_eq_false_iff_not] at hg2
      omega
     clear hg2
     rcases hcase with z|⟨z0,z⟩|⟨z0,z1,z⟩|⟨z0,z1,z2,z⟩
     all_goals
      go_wp2_with fail
      refine bodyPost_ret (v:=.tuple #[.int .i64 0,.int .i64 33]) (by simp [results,Tryz.results41]) rfl ?_
      exact ⟨by rw [HR.out],HBW.out⟩
    | true =>
     have hg2:(decide (0≤mo)&&decide (mo≤1000000000000000)&&decide (1≤kd)&&decide (kd≤5))=true:=by rw [HKM.out.1,HKM.out.2];exact hgood
     simp only [Bool.and_eq_true,decide_eq_true_eq] at hg2
     have HGD:=hid hgood
     clear hgood
     obtain ⟨⟨⟨g0,g1⟩,g2⟩,g3⟩:=hg2
     have z0:¬mo<0:=by omega
     have z1:¬1000000000000000<mo:=by omega
     have z2:¬kd<1:=by omega
     have z3:¬5<kd:=by omega
     have HNX:Hid (∀ j y,j<k+1→l[j]?=some y→okF7 y=true):=hid (fun j y hj hy=>by
      by_cases e:j=k
      ·subst e;rw [HX.out] at hy;injection hy with hy;subst hy;exact HGD.out
      ·exact HOK.out j y (by omega) hy)
     obtain ⟨sb,hsb⟩:∃ b,b=decide (kd=3∨kd=4∨kd=5):=⟨_,rfl⟩
     have HSUB:=hid (show ∀ W,Calls Tryz.prog 28 #[.int .i64 kd] W fun e w'=>e=.returned (.bool sb)∧Below W.heap.size W w' from fun W=>by rw [hsb];exact qtN kd W)
     cases sb with
     | true =>
      have HAD:=hid (show flowS (l.take (k+1))=s - mo by rw [qeO HX.out,←HS.out,addF7,if_neg (by rw [←HKM.out.1];have:=of_decide_eq_true hsb.symm;omega),HKM.out.2];omega)
      clear hsb
      have wk:IntKind.i64.wrap (s - mo)=s - mo:=IntWalk.i64_in _ (by omega)
      go_wp2_with (go_at_call 28;refine (HSUB.out _).mono ?_;rintro e W2 ⟨rfl,hbn⟩;have HBN:=hid (HBW.out.trans (hbn.mono HBW.out.size));replace x5:=qcU x5 hbn;clear hbn)
      go_roundg (gk - 1)
      case measure=>omega
      case rel=>exact ⟨k+1,s - mo,by omega,by omega,by go_num,rfl,HAD.out.symm,HNX.out,by omega,by omega,HBN.out⟩
     | false =>
      have HAD:=hid (show flowS (l.take (k+1))=s+mo by rw [qeO HX.out,←HS.out,addF7,if_pos (by rw [←HKM.out.1];have:=of_decide_eq_false hsb.symm;omega),HKM.out.2])
      clear hsb
      have wk:IntKind.i64.wrap (s+mo)=s+mo:=IntWalk.i64_in _ (by omega)
      go_wp2_with (go_at_call 28;refine (HSUB.out _).mono ?_;rintro e W2 ⟨rfl,hbn⟩;have HBN:=hid (HBW.out.trans (hbn.mono HBW.out.size));replace x5:=qcU x5 hbn;clear hbn)
      go_roundg (gk - 1)
      case measure=>omega
      case rel=>exact ⟨k+1,s+mo,by omega,by omega,by go_num,rfl,HAD.out.symm,HNX.out,by omega,by omega,HBN.out⟩
   ·have hkn:k=n:=by omega
    have HR:=hid (show flowR l=(s,0) by
     rw [qjD HG.out (fun j y hy=>HOK.out j y (by have:=(List.getElem?_eq_some_iff.1 hy).1;have:=HN.out;omega) hy),HS.out,hkn,HN.out,List.take_length])
    subst hkn
    go_wp2_with fail
    refine bodyPost_ret (v:=.tuple #[.int .i64 s,.int .i64 0]) (by simp [results,Tryz.results41]) rfl ?_
    exact ⟨by rw [HR.out],HB0.out⟩
end Go.Proofs.YtemoddmadfoaiaaGreat
