import Derived.Test.YtemoddmadfoaiaaGreatDwA
import Derived.Test.YtemoddmadfoaiaaGreatGkC
set_option linter.unusedVariables false
set_option linter.unusedSimpArgs false
set_option maxRecDepth 100000
set_option maxHeartbeats 8000000
namespace Go.Proofs.YtemoddmadfoaiaaGreat
open Go.RowKit Big Reg Al Ga Dl
open Lib (hid)
def ann:ByteArray:=⟨#[97,110,110]⟩
def tA:Tk:=tkO ⟨#[97]⟩ 1 1000 0
def tB:Tk:=tkO ⟨#[98]⟩ 2 0 3
def nA:Nt:=⟨⟨#[97]⟩,⟨#[]⟩,ann,1,3,1000,[⟨⟨#[]⟩,ann,0,3⟩]⟩
def nB:Nt:=⟨⟨#[98]⟩,⟨#[]⟩,ann,2,3,900,[⟨⟨#[]⟩,ann,0,3⟩]⟩
theorem jdB:dealL [] [tA,tB] (3,1) (3,1) 0 0=.ok ([⟨⟨#[]⟩,ann,0,6⟩],[nA,nB]):=by kernel_rfl
theorem jeC:okT [tA,tB]=true:=by decide +kernel
def tC:Tk:=tkO ⟨#[97]⟩ 4 1000 0
def lC:Lot:=⟨⟨#[]⟩,ann,0,9⟩
def nC:Nt:=⟨⟨#[97]⟩,⟨#[]⟩,ann,4,4,1000,[⟨⟨#[]⟩,ann,0,4⟩]⟩
theorem jeS:dealL [lC] [tC] (3,1) (3,1) 0 0=.ok ([⟨⟨#[]⟩,ann,0,5⟩],[nC]):=by kernel_rfl
theorem okT_c:okT [tC]=true:=by decide +kernel
def Dld (b:Nat) (l:List Lot) (N:List Nt) (v:Value) (W:World):Prop:=∃ v' bn,v=.tuple #[.agg #[v'],.slice (some ⟨bn,0,none⟩) N.length N.length,.int .i64 0]∧Own W b v' l∧NtsAt W bn N∧b≤bn∧bn<W.heap.size
theorem Dld.upB {b:Nat} {l:List Lot} {N:List Nt} {v:Value} {x y:World} (h:Dld b l N v x) (hb:Below x.heap.size x y):Dld b l N v y:=by
 obtain ⟨v',bn,e,h1,h2,h3,h4⟩:=h;exact ⟨v',bn,e,h1.below hb,h2.below hb,h3,by have:=hb.size;omega⟩
theorem Dld.upG {b:Nat} {l:List Lot} {N:List Nt} {v:Value} {x y:World} {X:Nat} (h:Dld b l N v x) (hg:x.grownBy y (some X)) (hX:X<b):Dld b l N v y:=by
 obtain ⟨v',bn,e,h1,h2,h3,h4⟩:=h;exact ⟨v',bn,e,World.ownsRow.kept h1 hg (.inr fun e=>by have:=(h1.lt X e).1;omega),h2.grown hg (by omega),h3,by have:=hg.size;omega⟩
theorem pc3:Pc ((3,1):Qn):=⟨⟨by decide +kernel,by decide +kernel,by decide,by decide⟩,by decide⟩
theorem Dld.nts {b bn n m:Nat} {l:List Lot} {N:List Nt} {v e:Value} {W:World} (h:Dld b l N (.tuple #[.agg #[v],.slice (some ⟨bn,0,none⟩) n m,e]) W):Own W b v l∧NtsAt W bn N∧b≤bn∧bn<W.heap.size:=by
 obtain ⟨v',bn',he,h1,h2,h3,h4⟩:=h;simp at he
 obtain ⟨rfl,⟨rfl,_⟩,_⟩:=he;exact ⟨h1,h2,h3,h4⟩
theorem NtsAt.cel {W:World} {bn k:Nat} {N:List Nt} {x:Nt} (h:NtsAt W bn N) (hx:N[k]?=some x) {p q:Nat} (hp:p=k*7+4) (hq:q=k*7+5):W.cell? ⟨bn,p,none⟩=some (.int .i64 x.units)∧W.cell? ⟨bn,q,none⟩=some (.int .i64 x.money):=by
 obtain ⟨v,h1,_⟩:=h k x hx;subst hp hq;exact ⟨h1.cell (j:=4) rfl,h1.cell (j:=5) rfl⟩
theorem jcB {W:World} {b g o q n:Nat} {x:Lot} (h:Own W b (.slice (some ⟨g,o,none⟩) n q) [x]):W.cell? ⟨g,o+3,none⟩=some (.int .i64 x.units):=by
 obtain ⟨_,_,A,cap,he,h3⟩:=h.lots;obtain ⟨g',o',rfl,h4⟩:=h3 (by simp);simp at he
 obtain ⟨⟨rfl,rfl⟩,_⟩:=he;exact h4 3 _ rfl
theorem qvA {W:World} {l:List Lot} (hn:0<l.length) (h64:l.length≤64):LotsAt (W.alloc (.cells (cellsL l).toArray 56)) (.slice (some ⟨W.heap.size,0,none⟩) l.length l.length) l:=by
 have h:=(At.fresh W (cellsL l) 56 rfl).range;refine ⟨by rw [qbW],by omega,_,_,rfl,fun _=>⟨_,0,rfl,fun k u hu=>?_⟩⟩
 have:=h k u hu;rwa [Nat.zero_add] at this ⊢
theorem qyO {W:World}:LotsAt W (.slice none (([]:List Lot).length) 0) []:=(Own.nil W 0).lots
theorem qwO:Tryz.prog.built 40 []=some #[.slice none 0 0]:=by kernel_rfl
theorem qtS {W:World} {ts:List Tk} (hn:0<ts.length) (h64:ts.length≤64):TksAt (W.alloc (.cells (cellsT ts).toArray 60)) (.slice (some ⟨W.heap.size,0,none⟩) ts.length ts.length) ts:=by
 have h:=(At.fresh W (cellsT ts) 60 rfl).range;refine ⟨by rw [qsI],by omega,_,_,rfl,fun _=>⟨_,0,rfl,fun k u hu=>?_⟩⟩
 have:=h k u hu;rwa [Nat.zero_add] at this ⊢
theorem jaJ (w:World) :
  Calls Tryz.prog 13 #[] w fun e w'=>e=.returned (.bool true)∧Below w.heap.size w w':=by
 obtain ⟨cR,V_cR⟩:∃ c:List Value,Hid (c=rat false 3 false 1):=⟨_,hid rfl⟩;have HR:=hid (fun W=>jdQ (cR:=cR) (x:=3) (y:=1) (d:=1) rfl (by decide) (by rw [V_cR.out];kernel_rfl) (by decide) (by decide) (by decide) W);obtain ⟨B0,hB0⟩:∃ B,B=w.heap.size:=⟨_,rfl⟩;have FR:=hid (show Fr B0 w w by rw [hB0];exact Fr.start w);have FR0:=hid FR.out.le;have hZB0:B0≤B0:=Nat.le_refl _;have HB0:=hid hB0;go_enter Tryz.func13,Tryz.ntmps13
 go_upto_region 1 with fail
 clear hB0;refine wT [⟨true,1,1,2,0,0,27,9,cR,0,cR,[]⟩] [(9,.agg cR.toArray)] (by simp only [zr,zq];rfl) (by kernel_rfl) rfl ?_ ?_ ?_ ?_
 ·intro W' hW';refine fxo ?_<|fxs rfl<|fxs rfl<|fxn
  go_big_quiet_step ((go_at_call 24;exact qaA (HR.out _)));exact wqn rfl
 ·exact fP1 (Tryz.alR (qR V_cR.out))
 ·exact fP1 (sR V_cR (fun _=>rfl) rfl)
 intro β wx1 E;replace FR:=fnf FR E rfl;obtain ⟨b1,hb1,eb1⟩:=nwb E mms;have hZb1:B0≤b1:=Nat.le_trans FR0.out eb1.1;have Ab1:=hid eb1.2;simp only [nP,zr,zq];rw [←hb1];replace FR0:=hid FR.out.le;clear E eb1 hb1;go_upto_region 2 with fail
 have HB1:=hid (show Below w.heap.size w wx1 by have:=FR.out.below;rwa [HB0.out] at this);refine qeE [(0,11,.agg #[.slice none 0 0]),(4,15,.agg cR.toArray),(5,16,.agg cR.toArray)] [(1,[]),(2,[]),(3,[])] 6 11 12 [7,8,9,10] [13,14] 17 2 40 (.tmp 2) (.tmp 18) #[.slice none 0 0] undef (by kernel_rfl) (by kernel_rfl) (by rfl) (by rfl) (by rfl) (by rfl) (by rfl) (by rfl) (by rfl) (by rfl) (by rfl) (by rfl) (by rfl) Tryz.layRg (by kernel_rfl) (by simp only [putsA,List.foldl_cons,List.foldl_nil,zq]) ?_ ?_
 ·have r1:=fun W (h:Below wx1.heap.size wx1 W)=>(Ab1.out.below h).read (P:=Tryz.prog) Tryz.underlying27 rfl (qR V_cR.out)
  refine ⟨⟨_,rfl,rfl,.inl ⟨by rfl,fun W _=>qcY rfl rfl qwO⟩⟩,?_⟩;simp only [zq];refine ⟨⟨_,rfl,rfl,.inl ⟨by rfl,fun W hW=>qaM rfl rfl (r1 W hW)⟩⟩,?_⟩;simp only [zq];refine ⟨⟨_,rfl,rfl,.inl ⟨by rfl,fun W hW=>qaM rfl rfl (r1 W hW)⟩⟩,?_⟩;simp only [zq];exact trivial
 ·simp only [putsA,List.foldl_cons,List.foldl_nil,zq];refine ⟨_,_,by rfl,by rfl,by rfl,fun v _=>v=.agg tA.cells.toArray,fun _ _ _ h=>h,fun u W hW _=>GY.callOf (f:=48) (args:=#[.string ⟨#[97]⟩,.int .i64 1,.int .i64 1000,.int .i64 0]) (by simp [execOp,Act.eval,go_sem]) ((qkF _ _ _ _ W).mono ?_),?_⟩
  ·rintro e w3 ⟨rfl,hb⟩;exact ⟨_,rfl,hb,rfl⟩
  rintro v ⟨_,rfl⟩;refine ⟨[],_,rfl,fun _=>trivial,fun u=>by simp only [putsA,List.foldl_cons,List.foldl_nil,zq];rfl,fun u p=>by simp only [putsA,List.foldl_cons,List.foldl_nil,zq],?_⟩;refine ⟨_,_,by rfl,by rfl,by rfl,fun v _=>v=.agg tB.cells.toArray,fun _ _ _ h=>h,fun u W hW _=>GY.callOf (f:=48) (args:=#[.string ⟨#[98]⟩,.int .i64 2,.int .i64 0,.int .i64 3]) (by simp [execOp,Act.eval,go_sem]) ((qkF _ _ _ _ W).mono ?_),?_⟩
  ·rintro e w3 ⟨rfl,hb⟩;exact ⟨_,rfl,hb,rfl⟩
  rintro v ⟨_,rfl⟩;refine ⟨[],_,rfl,fun _=>trivial,fun u=>by simp only [putsA,List.foldl_cons,List.foldl_nil,zq];rfl,fun u p=>by simp only [putsA,List.foldl_cons,List.foldl_nil,zq],?_⟩;refine ⟨_,_,by rfl,by rfl,by rfl,fun v W=>TksAt W v [tA,tB],fun v W ob h=>h.below (qaU W ob),fun u W hW _=>GY.rowB (s:=13) (e:=60) [.agg tA.cells.toArray,.agg tB.cells.toArray] (by rfl) (by simp [Act.eval]) (by rfl) (by decide) (by decide) (by intro x hx;simp only [List.mem_cons,List.not_mem_nil,or_false] at hx;rcases hx with rfl|rfl<;>rfl) (by decide) Tryz.underlying42 (by kernel_rfl) (by kernel_rfl) ⟨qaU W _,qtS (ts:=[tA,tB]) (by decide) (by decide)⟩,?_⟩;rintro v ⟨_,hv0⟩;refine ⟨[],_,rfl,fun _=>trivial,fun u=>by simp only [putsA,List.foldl_cons,List.foldl_nil,zq];rfl,fun u p=>by simp only [putsA,List.foldl_cons,List.foldl_nil,zq],?_⟩;clear hv0;unfold chY TailH;refine ⟨fun b v W=>Dld b [⟨⟨#[]⟩,ann,0,6⟩] [nA,nB] v W,fun u W hW hK=>GY.callOf (f:=19) (args:=#[.agg #[.slice none 0 0],v,.agg cR.toArray,.agg cR.toArray,.int .i64 0,.int .i64 0]) (by simp [execOp,Act.eval,go_sem]) ((qnX (A:=none) (cap:=0) (pl:=0) (l:=[]) (ts:=[tA,tB]) (offer:=(3,1)) (bid:=(3,1)) (by rw [V_cR.out];rfl) (by rw [V_cR.out];rfl) pc3 pc3 rfl (by decide) (by decide) (by decide) (by decide +kernel) jeC (fun _=>rfl) W qyO hK).mono ?_),fun b v x y h hb=>h.upB hb,fun b v x y X h hg hX=>h.upG hg hX,?_⟩
  ·rintro e w3 ⟨hb,h⟩;rw [jdB] at h;obtain ⟨v',bn,rfl,h1,h2,h3,h4⟩:=h;exact ⟨_,rfl,hb,v',bn,rfl,h1,h2,h3,h4⟩
  rintro b v2 ⟨_,v',bn,rfl,h1,_,_,_⟩;have ho1:=qeR h1;obtain ⟨A1,q1,rfl⟩:=Rd.form h1.lots;refine ⟨[(7,10,.tuple #[.agg #[.slice A1 1 q1],.slice (some ⟨bn,0,none⟩) 2 2,.int .i64 0]),(8,18,.agg #[.slice A1 1 q1]),(9,19,.slice (some ⟨bn,0,none⟩) 2 2),(10,20,.int .i64 0)],[(13,3,.slice (some ⟨bn,0,none⟩) 2 2),(14,4,.int .i64 0)],#[.slice A1 1 q1],_,rfl,rfl,fun u=>?_,fun u=>by simp only [putsA,List.foldl_cons,List.foldl_nil,zq];rfl,fun u p=>by simp only [putsA,List.foldl_cons,List.foldl_nil,zq],fun p=>by rfl,fun p=>by rfl,by rfl,ho1,fun X W hW hR hA=>⟨?_,?_⟩⟩
  ·skip
   refine ⟨⟨_,rfl,rfl,.inl ⟨by rfl,fun _ _=>by rfl⟩⟩,?_⟩;simp only [zq];refine ⟨⟨_,rfl,rfl,.inl ⟨by rfl,fun _ _=>by rfl⟩⟩,?_⟩;simp only [zq];refine ⟨⟨_,rfl,rfl,.inl ⟨by rfl,fun _ _=>by rfl⟩⟩,?_⟩;simp only [zq];refine ⟨⟨_,rfl,rfl,.inl ⟨by rfl,fun _ _=>by rfl⟩⟩,?_⟩;simp only [zq];exact trivial
  ·skip
   refine ⟨⟨_,rfl,rfl,.inl ⟨by rfl,fun _ _=>by rfl⟩⟩,?_⟩;simp only [zq];refine ⟨⟨_,rfl,rfl,.inl ⟨by rfl,fun _ _=>by rfl⟩⟩,?_⟩;simp only [zq];exact trivial
  simp only [putsA,List.foldl_cons,List.foldl_nil,zq];have HW2:=hid (HB1.out.trans (hW.mono HB1.out.size));have HR2:=hid hR;have HWX:=hid hW;clear hW hR h1 hA;go_upto_region 4 with fail
  obtain ⟨g,hg⟩:∃ g,g=W.heap.size:=⟨_,rfl⟩;obtain ⟨W2,hW2⟩:∃ x,x=((W.alloc (.cells #[.string ⟨#[]⟩,.string ⟨#[97,110,110]⟩,.int .i64 0,.int .i64 9] 56)).alloc (.cells #[.slice (some ⟨W.heap.size,0,none⟩) 1 1] 40)):=⟨_,rfl⟩;rw [←hW2,←hg];have hb2:Below W.heap.size W W2:=by rw [hW2];exact ((Below.refl _ _).alloc (Nat.le_refl _) _).alloc (by simp) _
  have HLC:=hid (show LotsAt W2 (.slice (some ⟨g,0,none⟩) [lC].length 1) [lC] by rw [hW2,hg];exact (qvA (l:=[lC]) (by decide) (by decide)).below (qaU _ _));have ARG:=hid (show At W2 (g+1) 0 [.slice (some ⟨g,0,none⟩) 1 1] by rw [hW2,hg];exact At.fresh _ [.slice (some ⟨W.heap.size,0,none⟩) 1 1] _ (by simp));have AB2:=hid (show At W2 b1 0 cR from (Ab1.out.below HWX.out).below hb2);have HN2:=hid (HR2.out.nts.2.1.below hb2);have HB2:=hid (HW2.out.trans (hb2.mono HW2.out.size));clear hW2 hg hb2 HR2 HWX;refine qeE [(0,26,.agg #[.slice (some ⟨g,0,none⟩) 1 1]),(3,29,.agg cR.toArray),(4,30,.agg cR.toArray)] [(1,[]),(2,[])] 5 10 11 [6,7,8,9] [12,13] 31 6 40 (.tmp 6) (.tmp 32) #[.slice none 0 0] undef (by kernel_rfl) (by kernel_rfl) (by rfl) (by rfl) (by rfl) (by rfl) (by rfl) (by rfl) (by rfl) (by rfl) (by rfl) (by rfl) (by rfl) Tryz.layRg (by kernel_rfl) (by simp only [putsA,List.foldl_cons,List.foldl_nil,zq]) ?_ ?_
  ·have r0:=fun V (h:Below W2.heap.size W2 V)=>(ARG.out.below h).read (P:=Tryz.prog) Tryz.underlying40 rfl (by kernel_rfl)
   have r1:=fun V (h:Below W2.heap.size W2 V)=>(AB2.out.below h).read (P:=Tryz.prog) Tryz.underlying27 rfl (qR V_cR.out)
   refine ⟨⟨_,rfl,rfl,.inl ⟨by rfl,fun V hV=>qaM rfl rfl (r0 V hV)⟩⟩,?_⟩;simp only [zq];refine ⟨⟨_,rfl,rfl,.inl ⟨by rfl,fun W hW=>qaM rfl rfl (r1 W hW)⟩⟩,?_⟩;simp only [zq];refine ⟨⟨_,rfl,rfl,.inl ⟨by rfl,fun W hW=>qaM rfl rfl (r1 W hW)⟩⟩,?_⟩;simp only [zq];exact trivial
  simp only [putsA,List.foldl_cons,List.foldl_nil,zq];refine ⟨_,_,by rfl,by rfl,by rfl,fun v _=>v=.agg tC.cells.toArray,fun _ _ _ h=>h,fun u W hW _=>GY.callOf (f:=48) (args:=#[.string ⟨#[97]⟩,.int .i64 4,.int .i64 1000,.int .i64 0]) (by simp [execOp,Act.eval,go_sem]) ((qkF _ _ _ _ W).mono ?_),?_⟩
  ·rintro e w3 ⟨rfl,hb⟩;exact ⟨_,rfl,hb,rfl⟩
  rintro v ⟨_,rfl⟩;refine ⟨[],_,rfl,fun _=>trivial,fun u=>by simp only [putsA,List.foldl_cons,List.foldl_nil,zq];rfl,fun u p=>by simp only [putsA,List.foldl_cons,List.foldl_nil,zq],?_⟩;refine ⟨_,_,by rfl,by rfl,by rfl,fun v W=>TksAt W v [tC],fun v W ob h=>h.below (qaU W ob),fun u W hW _=>GY.rowB (s:=13) (e:=60) [.agg tC.cells.toArray] (by rfl) (by simp [Act.eval]) (by rfl) (by decide) (by decide) (by intro x hx;simp only [List.mem_cons,List.not_mem_nil,or_false] at hx;rcases hx with rfl;rfl) (by decide) Tryz.underlying42 (by kernel_rfl) (by kernel_rfl) ⟨qaU W _,qtS (ts:=[tC]) (by decide) (by decide)⟩,?_⟩;rintro v2 ⟨_,hv0⟩;refine ⟨[],_,rfl,fun _=>trivial,fun u=>by simp only [putsA,List.foldl_cons,List.foldl_nil,zq];rfl,fun u p=>by simp only [putsA,List.foldl_cons,List.foldl_nil,zq],?_⟩;clear hv0;unfold chY TailH;refine ⟨fun b v W=>Dld b [⟨⟨#[]⟩,ann,0,5⟩] [nC] v W,fun u W hW hK=>GY.callOf (f:=19) (args:=#[.agg #[.slice (some ⟨g,0,none⟩) 1 1],v2,.agg cR.toArray,.agg cR.toArray,.int .i64 0,.int .i64 0]) (by simp [execOp,Act.eval,go_sem]) ((qnX (A:=some ⟨g,0,none⟩) (cap:=1) (pl:=0) (l:=[lC]) (ts:=[tC]) (offer:=(3,1)) (bid:=(3,1)) (by rw [V_cR.out];rfl) (by rw [V_cR.out];rfl) pc3 pc3 rfl (by decide) (by decide) (by decide) (by decide +kernel) okT_c (fun h=>by cases h) W (HLC.out.below hW) hK).mono ?_),fun b v x y h hb=>h.upB hb,fun b v x y X h hg hX=>h.upG hg hX,?_⟩
  ·rintro e w3 ⟨hb,h⟩;rw [jeS] at h;obtain ⟨v',bn,rfl,h1,h2,h3,h4⟩:=h;exact ⟨_,rfl,hb,v',bn,rfl,h1,h2,h3,h4⟩
  rintro b4 v4 ⟨_,v',bm,rfl,h1,_,_,_⟩;have ho1:=qeR h1;obtain ⟨g4,o4,q4,rfl,_⟩:=LotsAt.some h1.lots (by decide);refine ⟨[(6,25,.tuple #[.agg #[.slice (some ⟨g4,o4,none⟩) 1 q4],.slice (some ⟨bm,0,none⟩) 1 1,.int .i64 0]),(7,32,.agg #[.slice (some ⟨g4,o4,none⟩) 1 q4]),(8,33,.slice (some ⟨bm,0,none⟩) 1 1),(9,34,.int .i64 0)],[(12,7,.slice (some ⟨bm,0,none⟩) 1 1),(13,8,.int .i64 0)],#[.slice (some ⟨g4,o4,none⟩) 1 q4],_,rfl,rfl,fun u=>?_,fun u=>by simp only [putsA,List.foldl_cons,List.foldl_nil,zq];rfl,fun u p=>by simp only [putsA,List.foldl_cons,List.foldl_nil,zq],fun p=>by rfl,fun p=>by rfl,by rfl,ho1,fun X4 W4 hW hR hA=>⟨?_,?_⟩⟩
  ·skip
   refine ⟨⟨_,rfl,rfl,.inl ⟨by rfl,fun _ _=>by rfl⟩⟩,?_⟩;simp only [zq];refine ⟨⟨_,rfl,rfl,.inl ⟨by rfl,fun _ _=>by rfl⟩⟩,?_⟩;simp only [zq];refine ⟨⟨_,rfl,rfl,.inl ⟨by rfl,fun _ _=>by rfl⟩⟩,?_⟩;simp only [zq];refine ⟨⟨_,rfl,rfl,.inl ⟨by rfl,fun _ _=>by rfl⟩⟩,?_⟩;simp only [zq];exact trivial
  ·skip
   refine ⟨⟨_,rfl,rfl,.inl ⟨by rfl,fun _ _=>by rfl⟩⟩,?_⟩;simp only [zq];refine ⟨⟨_,rfl,rfl,.inl ⟨by rfl,fun _ _=>by rfl⟩⟩,?_⟩;simp only [zq];exact trivial
  simp only [putsA,List.foldl_cons,List.foldl_nil,zq];have HB4:=hid (HB2.out.trans (hW.mono HB2.out.size));have hN4:=HN2.out.below hW;obtain ⟨c0,c1⟩:=hN4.cel (k:=0) (x:=nA) rfl (p:=4) (q:=5) rfl rfl;obtain ⟨_,c2⟩:=hN4.cel (k:=1) (x:=nB) rfl (p:=11) (q:=12) rfl rfl;obtain ⟨hOw,hNm,_,_⟩:=Dld.nts hR;obtain ⟨c3,c4⟩:=hNm.cel (k:=0) (x:=nC) rfl (p:=4) (q:=5) rfl rfl;have c5:=hA.cell0;have c6:=jcB hOw;change W4.cell? ⟨bn,4,none⟩=some (.int .i64 3) at c0
  change W4.cell? ⟨bn,5,none⟩=some (.int .i64 1000) at c1
  change W4.cell? ⟨bn,12,none⟩=some (.int .i64 900) at c2
  change W4.cell? ⟨bm,4,none⟩=some (.int .i64 4) at c3
  change W4.cell? ⟨bm,5,none⟩=some (.int .i64 1000) at c4
  change W4.cell? ⟨g4,o4+3,none⟩=some (.int .i64 5) at c6
  clear hW hR h1 hA hN4 hOw hNm ho1;go_wp2_with fail
  refine bodyPost_ret (v:=.bool true) (by simp [results,Tryz.results13]) rfl ⟨rfl,HB4.out⟩
set_option maxHeartbeats 8000000
theorem qwZ {cr:List Value} {n m:Bool} {p q:Nat} (h:cr=rat n p m q) (hp:p<BB^32) (hq:q<BB^32) (w:World) :
  Calls Tryz.prog 80 #[.agg cr.toArray] w fun e w'=>e=.returned (.bool (okPc n m p q))∧Below w.heap.size w w':=by
 by_cases hok:p<B480∧q<B480∧n=cs1 n p∧m=false∧q≠0∧Nat.gcd p q=1
 ·have hG:okPc n m p q=decide (0<zI n p):=by unfold okPc;rw [decide_eq_true hok,Bool.true_and]
  obtain ⟨b1,b2,b3,b4,b5,b6⟩:=hok;subst b4;have hz:cr=ratZ (zI n p) q:=by rw [h,jdV b3]
  have hc:=qjR n p;rw [←b3] at hc;have hV:VQ (zI n p,q):=⟨by show (zI n p).natAbs<B480;rw [←hc.2];exact b1,b2,b5,by show Nat.gcd (zI n p).natAbs q=1;rw [←hc.2];exact b6⟩;rw [hG];exact jeQ (a:=(zI n p,q)) hz hV rfl w
 ·have hG:okPc n m p q=false:=by unfold okPc;rw [decide_eq_false hok,Bool.false_and]
  rw [hG];exact qzK h hp hq hok w
theorem qpA {cr:List Value} {n m:Bool} {p q:Nat} (h:cr=rat n p m q) (hp:p<BB^32) (hq:q<BB^32) (w:World) :
  Calls Tryz.prog 46 #[.agg cr.toArray] w fun e w'=>e=.returned (.bool (okPc n m p q))∧Below w.heap.size w w':=by
 have V_cr:=hid h;obtain ⟨t,ht⟩:∃ t,t=okPc n m p q:=⟨_,rfl⟩;have HA:=hid (fun W=>(ht ▸ qwZ h hp hq W));rw [←ht];clear h hp hq ht;obtain ⟨B0,w0,hw0,hB0,AB0,FR,FR0,HB0,hZB0⟩:=en1 w 27 (bxq cr);go_enter Tryz.func46,Tryz.ntmps46
 go_upto_region 1 with fail
 rw [←hw0,←hB0];clear hw0 hB0;refine wT [] [(3,.agg cr.toArray),(4,.bool t),(2,.bool t)] (by simp only [zr,zq];rfl) (by kernel_rfl) rfl ?_ oN oN ?_
 ·intro W' hW';refine ldR (abl AB0 hW') V_cr rfl<|fo2 ?_ ?_<|fxn;all_goals (go_big_quiet_step ((go_at_call 80;exact qaA (HA.out _)));exact wqn rfl)
 intro β wx1 E;replace FR:=fnf FR E rfl;replace AB0:=fnh AB0 E rfl;simp only [nP,zr,zq];clear E;go_wp2
 go_ret
 exact ⟨rfl,fend HB0 FR⟩
theorem qsY (k:Nat) (h:k<7):IntKind.i64.wrap (10*((10^k:Nat):Int))=((10^(k+1):Nat):Int):=by
 rw [Int.mul_comm];exact qpX k h
theorem qsZ (k:Nat) (hk:k≤7) (w:World) :
  Calls Tryz.prog 81 #[.int .i64 (k:Int)] w fun e w'=>e=.returned (.int .i64 ((10^k:Nat):Int))∧Below w.heap.size w w':=by
 go_enter Tryz.func81,Tryz.ntmps81
 go_wp2
 go_loopg [4,3] k (fun m i n wr=>∃ (j:Nat),j≤k∧k - j≤m∧i=.int .i64 j∧n=.int .i64 ((10^j:Nat):Int)∧wr=w)
 case atStart=>exact ⟨0,by omega,by omega,rfl,rfl,rfl⟩
 case round =>
  obtain ⟨j,hj,hm,rfl,rfl,rfl⟩:=hrel;by_cases hlt:j<k
  ·have hst:=qsY j (by omega);obtain ⟨P,hP⟩:∃ P:Int,P=((10^j:Nat):Int):=⟨_,rfl⟩;obtain ⟨P2,hP2⟩:∃ P:Int,P=((10^(j+1):Nat):Int):=⟨_,rfl⟩;rw [←hP,←hP2] at hst;rw [←hP];have HP2:=hid hP2;clear hP hP2;go_wp2
   go_roundg (gk - 1)
   case measure=>omega
   case rel=>exact ⟨j+1,by omega,by omega,by go_num,by rw [←HP2.out],rfl⟩
  ·obtain rfl:j=k:=by omega
   obtain ⟨P,hP⟩:∃ P:Int,P=((10^j:Nat):Int):=⟨_,rfl⟩;rw [←hP];have HP:=hid hP;clear hP;go_wp2
   go_ret
   exact ⟨by rw [←HP.out];rfl,Below.refl _ _⟩
theorem qrD {cp cN:List Value} {p:Qn} {pl:Nat} {z k:Int} (h:cp=ratZ p.1 p.2) (hp:Pc p) (hz:z=(pl:Int)) (h6:pl≤6) (k0:0≤k) (k1:k≤1000000000000000) (hN:cN=resN (worthQ p pl k)) (w:World) :
  Calls Tryz.prog 47 #[.agg cp.toArray,.int .i64 z,.int .i64 k] w fun e w'=>e=.returned (.agg cN.toArray)∧Below w.heap.size w w':=by
 obtain ⟨pv,pe⟩:=qgO k0 k1 h6;have hps:=qiC k0 k1 h6;have h10:10^pl≤10^6:=Nat.pow_le_pow_right (by omega) h6;have V_cr:=hid (show cp=rat (decide (p.1<0)) p.1.natAbs false p.2 from h);obtain ⟨nn,np,nm',nq,ne,hcN⟩:∃ n p m q e,cN=nm n p m q e:=by rw [hN];exact qoV _
 have V_cN:=hid hcN;obtain ⟨cz,V_cz⟩:∃ c:List Value,Hid (c=nm false 0 false 0 0):=⟨_,hid rfl⟩;obtain ⟨co,V_co⟩:∃ c:List Value,Hid (c=nm (decide (p.1<0)) p.1.natAbs false p.2 0):=⟨_,hid rfl⟩;obtain ⟨part,hpart⟩:∃ x,x=partQ k pl:=⟨_,rfl⟩;rw [←hpart] at pv pe hps;obtain ⟨cv,V_cv⟩:∃ c:List Value,Hid (c=nm (decide (part.1<0)) part.1.natAbs false part.2 0):=⟨_,hid rfl⟩;obtain ⟨kc,hkc⟩:∃ x,x=k*100:=⟨_,rfl⟩;obtain ⟨T,hT⟩:∃ x:Int,x=((10^pl:Nat):Int):=⟨_,rfl⟩;have wk:IntKind.i64.wrap (k*100)=kc:=by rw [hkc];exact IntWalk.i64_in _ (by omega)
 have HOF:=hid (eOf V_cr.out V_co.out);have HTE:=hid (fun W=>show Calls Tryz.prog 81 #[.int .i64 z] W (fun e w'=>e=.returned (.int .i64 T)∧Below W.heap.size W w') by rw [hz,hT];exact qsZ pl (by omega) W);have HOV:=hid (jeO (cN:=cv) (x:=kc) (y:=T) (d:=10^pl) hT (Nat.ne_of_gt (Nat.pow_pos (by decide))) (by rw [hkc,hps,V_cv.out];rfl) (by omega) (by omega) (by omega));have HMU:=hid (eMul (ca:=co) (cb:=cv) (cN:=cN) (a:=some p) (b:=some part) V_co.out V_cv.out (fun r e=>by injection e with e;subst e;exact hp.vq) (fun r e=>by injection e with e;subst e;exact pv) (by rw [hN,hpart];rfl));clear h hp hz h6 k0 k1 hN pv pe hps h10 hcN hpart hkc hT;have V_cp:=V_cr;clear V_cr;obtain ⟨B0,B1,w0,hw0,hB0,hB1,AB0,AB1,FR,FR0,HB0,hZB0,l01,hZB1⟩:=en2 w 27 70 (bxq cp) (zQN V_cz);go_enter Tryz.func47,Tryz.ntmps47
 go_upto_region 1 with fail
 rw [←hw0,←hB1,←hB0];clear hw0 hB0 hB1;refine wF [⟨false,0,6,8,B1,0,70,14,cN,0,cN,[]⟩] [(7,.agg cp.toArray),(8,.agg co.toArray),(9,.int .i64 k),(10,.int .i64 kc),(11,.int .i64 z),(12,.int .i64 T),(13,.agg cv.toArray),(14,.agg cN.toArray)] (by simp only [zr,zq];rfl) (by kernel_rfl) ?_ ?_ (fP1 bnC) ?_ uno ?_ ?_
 ·intro W' hW';refine ldR (abl AB0 hW') V_cp rfl<|fo4 ?_ ?_ ?_ ?_<|fxo (by go_big_quiet_step ((go_at_call 81;exact qaA (HTE.out _)));exact wqn rfl)<|fxo (by go_big_quiet_step ((go_at_call 39;exact qaA (HOV.out _)));exact wqn rfl)<|fxo (by go_big_quiet_step ((go_at_call 29;exact qaA (HMU.out _)));exact wqn rfl)<|fxs rfl<|fxn;all_goals (go_big_quiet_step ((go_at_call 32;exact qaA (HOF.out _)));exact wqn rfl)
 ·intro W' hK';have rd0:=akh AB0 hK' (by show B1≠B0;omega);refine ldR rd0 V_cp rfl<|fxs (by kernel_rfl)<|fxi ?_<|fxi ?_<|fxi ?_<|fxs (by kernel_rfl)<|fxs (by kernel_rfl)<|fxs (by kernel_rfl)<|fxs (by kernel_rfl)<|fxn;all_goals (first|(refine .inr ?_;go_big_quiet_step (fail);exact wqn rfl)|exact .inl (by kernel_rfl))
 ·exact fP1 (fun _=>⟨AB1.out.lt,rfl,At.room AB1.out (qcO V_cz.out) (qcO V_cN.out)⟩)
 ·exact fP1 (stw rfl (qcO V_cN.out) (jdK V_cN.out) (fun _=>rfl))
 intro β wx1 E;replace FR:=ffh FR E (by show B0≤B1;omega);replace AB0:=afh AB0 E (by show B1≠B0;omega);replace AB1:=hid (show At wx1 B1 0 cN from E.atOld mms rfl AB1.out.lt);simp only [nP,zr,zq];clear E;go_wp2_with fail
 have hld:=AB1.out.read (P:=Tryz.prog) Tryz.underlying70 rfl (qcO V_cN.out);refine bodyPost_ret (v:=.agg cN.toArray) (by simp [results,Tryz.results47,asAddr,hld]) rfl ?_;exact ⟨rfl,fend HB0 FR⟩
theorem qjC {cr cR cz:List Value} {n m b:Bool} {p q:Nat} {z k code:Int} {rn rm:Bool} {rp rq:Nat} (h:cr=rat n p m q) (hb:b=okPc n m p q) (hp:p<BB^32) (hq:q<BB^32) (hcR:cR=rat rn rp rm rq) (hz:cz=rat false 0 false 0)
  (hcase:(b=false∧cR=cz∧code=261)∨(b=true∧(z<0∨6<z)∧cR=cz∧code=30)∨(b=true∧¬z<0∧¬6<z∧(k<0∨1000000000000000<k)∧cR=cz∧code=253) ∨
   (b=true∧¬z<0∧¬6<z∧¬k<0∧¬1000000000000000<k∧∀ W,Calls Tryz.prog 47 #[.agg cr.toArray,.int .i64 z,.int .i64 k] W fun e w'=>e=.returned (.agg (nm rn rp rm rq code).toArray)∧Below W.heap.size W w')) (w:World) :
  Calls Tryz.prog 12 #[.agg cr.toArray,.int .i64 z,.int .i64 k] w fun e w'=>e=.returned (.tuple #[.agg cR.toArray,.int .i64 code])∧Below w.heap.size w w':=by
 have V_cr:=hid h;have V_cR:=hid hcR;have V_cz:=hid hz;obtain ⟨cN,V_cN⟩:∃ c:List Value,Hid (c=nm rn rp rm rq code):=⟨_,hid rfl⟩;have HPR:=hid (fun W=>(hb ▸ qpA h hp hq W));have HCASE:=hid hcase;clear h hb hp hq hcR hz hcase;obtain ⟨B0,B1,w0,hw0,hB0,hB1,AB0,AB1,FR,FR0,HB0,hZB0,l01,hZB1⟩:=en2 w 27 27 (bxq cr) (zQR V_cz);go_enter Tryz.func12,Tryz.ntmps12
 go_upto_region 1 with fail
 rw [←hw0,←hB1,←hB0];clear hw0 hB0 hB1;refine wT [] [(10,.agg cr.toArray),(11,.bool b),(12,.bool (!b)),(9,.bool (!b))] (by simp only [zr,zq];rfl) (by kernel_rfl) rfl ?_ oN oN ?_
 ·intro W' hW';refine ldR (abl AB0 hW') V_cr rfl<|fo3 ?_ ?_ ?_<|fxn;all_goals (go_big_quiet_step ((go_at_call 46;exact qaA (HPR.out _)));exact wqn rfl)
 intro β wx1 E;replace FR:=fnf FR E rfl;replace AB0:=fnh AB0 E rfl;replace AB1:=fnh AB1 E rfl;simp only [nP,zr,zq];replace FR0:=hid FR.out.le;clear E;rcases HCASE.out with ⟨rfl,rfl,rfl⟩|⟨rfl,h2,rfl,rfl⟩|⟨rfl,h2,h3,h4,rfl,rfl⟩|⟨rfl,h2,h3,h4,h5,g1⟩
 ·replace V_cR:=V_cz;clear HCASE V_cN;go_upto_region 2 with fail
  refine wF [⟨false,0,6,1,B1,0,27,13,cR,0,cR,[]⟩] [(13,.agg cR.toArray),(7,.int .i64 261)] (by simp only [zr,zq];rfl) (by kernel_rfl) ?_ ?_ (fP1 bnC) ?_ uno ?_ ?_
  ·intro W' hW';refine fxb (qaR V_cR.out) rfl<|fxs rfl<|fxo ?_<|fxn
   go_big_quiet_step (fail);exact wqn rfl
  ·intro W' hK';refine fxb (qaR V_cR.out) rfl<|fxs (by kernel_rfl)<|fxi ?_<|fxn
   first|(refine .inr ?_;go_big_quiet_step (fail);exact wqn rfl)|exact .inl (by kernel_rfl)
  ·exact fP1 (fun _=>⟨AB1.out.lt,rfl,At.room AB1.out (qR V_cz.out) (qR V_cR.out)⟩)
  ·exact fP1 (sR V_cR (fun _=>rfl) rfl)
  intro β wx2 E;replace FR:=ffh FR E (by show B0≤B1;omega);replace AB0:=afh AB0 E (by show B1≠B0;omega);replace AB1:=hid (show At wx2 B1 0 cR from E.atOld mms rfl AB1.out.lt);simp only [nP,zr,zq];replace FR0:=hid FR.out.le;clear E;go_wp2_with fail
  have hld:=AB1.out.read (P:=Tryz.prog) Tryz.underlying27 rfl (qR V_cR.out);refine bodyPost_ret (v:=.tuple #[.agg cR.toArray,.int .i64 261]) (by simp [results,Tryz.results12,asAddr,hld]) rfl ?_;exact ⟨rfl,fend HB0 FR⟩
 ·replace V_cR:=V_cz;clear HCASE V_cN;by_cases h3:z<0
  ·clear h2;go_upto_region 4 with fail
   refine wF [⟨false,0,6,1,B1,0,27,21,cR,0,cR,[]⟩] [(21,.agg cR.toArray),(7,.int .i64 30)] (by simp only [zr,zq];rfl) (by kernel_rfl) ?_ ?_ (fP1 bnC) ?_ uno ?_ ?_
   ·intro W' hW';refine fxb (qaR V_cR.out) rfl<|fxs rfl<|fxo ?_<|fxn
    go_big_quiet_step (fail);exact wqn rfl
   ·intro W' hK';refine fxb (qaR V_cR.out) rfl<|fxs (by kernel_rfl)<|fxi ?_<|fxn
    first|(refine .inr ?_;go_big_quiet_step (fail);exact wqn rfl)|exact .inl (by kernel_rfl)
   ·exact fP1 (fun _=>⟨AB1.out.lt,rfl,At.room AB1.out (qR V_cz.out) (qR V_cR.out)⟩)
   ·exact fP1 (sR V_cR (fun _=>rfl) rfl)
   intro β wx2 E;replace FR:=ffh FR E (by show B0≤B1;omega);replace AB0:=afh AB0 E (by show B1≠B0;omega);replace AB1:=hid (show At wx2 B1 0 cR from E.atOld mms rfl AB1.out.lt);simp only [nP,zr,zq];replace FR0:=hid FR.out.le;clear E;go_wp2_with fail
   have hld:=AB1.out.read (P:=Tryz.prog) Tryz.underlying27 rfl (qR V_cR.out);refine bodyPost_ret (v:=.tuple #[.agg cR.toArray,.int .i64 30]) (by simp [results,Tryz.results12,asAddr,hld]) rfl ?_;exact ⟨rfl,fend HB0 FR⟩
  ·have h2:6<z:=by omega
   go_upto_region 4 with fail
   refine wF [⟨false,0,6,1,B1,0,27,21,cR,0,cR,[]⟩] [(21,.agg cR.toArray),(7,.int .i64 30)] (by simp only [zr,zq];rfl) (by kernel_rfl) ?_ ?_ (fP1 bnC) ?_ uno ?_ ?_
   ·intro W' hW';refine fxb (qaR V_cR.out) rfl<|fxs rfl<|fxo ?_<|fxn
    go_big_quiet_step (fail);exact wqn rfl
   ·intro W' hK';refine fxb (qaR V_cR.out) rfl<|fxs (by kernel_rfl)<|fxi ?_<|fxn
    first|(refine .inr ?_;go_big_quiet_step (fail);exact wqn rfl)|exact .inl (by kernel_rfl)
   ·exact fP1 (fun _=>⟨AB1.out.lt,rfl,At.room AB1.out (qR V_cz.out) (qR V_cR.out)⟩)
   ·exact fP1 (sR V_cR (fun _=>rfl) rfl)
   intro β wx2 E;replace FR:=ffh FR E (by show B0≤B1;omega);replace AB0:=afh AB0 E (by show B1≠B0;omega);replace AB1:=hid (show At wx2 B1 0 cR from E.atOld mms rfl AB1.out.lt);simp only [nP,zr,zq];replace FR0:=hid FR.out.le;clear E;go_wp2_with fail
   have hld:=AB1.out.read (P:=Tryz.prog) Tryz.underlying27 rfl (qR V_cR.out);refine bodyPost_ret (v:=.tuple #[.agg cR.toArray,.int .i64 30]) (by simp [results,Tryz.results12,asAddr,hld]) rfl ?_;exact ⟨rfl,fend HB0 FR⟩
 ·replace V_cR:=V_cz;clear HCASE V_cN;by_cases h5:k<0
  ·clear h4;go_upto_region 6 with fail
   refine wF [⟨false,0,6,1,B1,0,27,29,cR,0,cR,[]⟩] [(29,.agg cR.toArray),(7,.int .i64 253)] (by simp only [zr,zq];rfl) (by kernel_rfl) ?_ ?_ (fP1 bnC) ?_ uno ?_ ?_
   ·intro W' hW';refine fxb (qaR V_cR.out) rfl<|fxs rfl<|fxo ?_<|fxn
    go_big_quiet_step (fail);exact wqn rfl
   ·intro W' hK';refine fxb (qaR V_cR.out) rfl<|fxs (by kernel_rfl)<|fxi ?_<|fxn
    first|(refine .inr ?_;go_big_quiet_step (fail);exact wqn rfl)|exact .inl (by kernel_rfl)
   ·exact fP1 (fun _=>⟨AB1.out.lt,rfl,At.room AB1.out (qR V_cz.out) (qR V_cR.out)⟩)
   ·exact fP1 (sR V_cR (fun _=>rfl) rfl)
   intro β wx2 E;replace FR:=ffh FR E (by show B0≤B1;omega);replace AB0:=afh AB0 E (by show B1≠B0;omega);replace AB1:=hid (show At wx2 B1 0 cR from E.atOld mms rfl AB1.out.lt);simp only [nP,zr,zq];replace FR0:=hid FR.out.le;clear E;go_wp2_with fail
   have hld:=AB1.out.read (P:=Tryz.prog) Tryz.underlying27 rfl (qR V_cR.out);refine bodyPost_ret (v:=.tuple #[.agg cR.toArray,.int .i64 253]) (by simp [results,Tryz.results12,asAddr,hld]) rfl ?_;exact ⟨rfl,fend HB0 FR⟩
  ·have h4:1000000000000000<k:=by omega
   go_upto_region 6 with fail
   refine wF [⟨false,0,6,1,B1,0,27,29,cR,0,cR,[]⟩] [(29,.agg cR.toArray),(7,.int .i64 253)] (by simp only [zr,zq];rfl) (by kernel_rfl) ?_ ?_ (fP1 bnC) ?_ uno ?_ ?_
   ·intro W' hW';refine fxb (qaR V_cR.out) rfl<|fxs rfl<|fxo ?_<|fxn
    go_big_quiet_step (fail);exact wqn rfl
   ·intro W' hK';refine fxb (qaR V_cR.out) rfl<|fxs (by kernel_rfl)<|fxi ?_<|fxn
    first|(refine .inr ?_;go_big_quiet_step (fail);exact wqn rfl)|exact .inl (by kernel_rfl)
   ·exact fP1 (fun _=>⟨AB1.out.lt,rfl,At.room AB1.out (qR V_cz.out) (qR V_cR.out)⟩)
   ·exact fP1 (sR V_cR (fun _=>rfl) rfl)
   intro β wx2 E;replace FR:=ffh FR E (by show B0≤B1;omega);replace AB0:=afh AB0 E (by show B1≠B0;omega);replace AB1:=hid (show At wx2 B1 0 cR from E.atOld mms rfl AB1.out.lt);simp only [nP,zr,zq];replace FR0:=hid FR.out.le;clear E;go_wp2_with fail
   have hld:=AB1.out.read (P:=Tryz.prog) Tryz.underlying27 rfl (qR V_cR.out);refine bodyPost_ret (v:=.tuple #[.agg cR.toArray,.int .i64 253]) (by simp [results,Tryz.results12,asAddr,hld]) rfl ?_;exact ⟨rfl,fend HB0 FR⟩
 ·have HW:=hid (fun W=>(V_cN.out.symm ▸ g1 W));clear g1 HCASE;go_upto_region 7 with fail
  refine wT [⟨true,4,8,5,0,0,70,33,cN,0,cN,[]⟩] [(30,.agg cr.toArray),(31,.int .i64 z),(32,.int .i64 k),(33,.agg cN.toArray)] (by simp only [zr,zq];rfl) (by kernel_rfl) rfl ?_ ?_ ?_ ?_
  ·intro W' hW';refine ldR (abl AB0 hW') V_cr rfl<|fo3 ?_ ?_ ?_<|fxs rfl<|fxs rfl<|fxn;all_goals (go_big_quiet_step ((go_at_call 47;exact qaA (HW.out _)));exact wqn rfl)
  ·exact fP1 (Tryz.alN (qcO V_cN.out))
  ·exact fP1 (stw rfl (qcO V_cN.out) (jdK V_cN.out) (fun _=>rfl))
  intro β wx2 E;replace FR:=fnf FR E rfl;obtain ⟨b8,hb8,eb8⟩:=nwb E mms;have lB0_b8:B0<b8:=ltb AB0 eb8.1;have lB1_b8:B1<b8:=ltb AB1 eb8.1;have hZb8:B0≤b8:=Nat.le_trans FR0.out eb8.1;replace AB0:=fnh AB0 E rfl;replace AB1:=fnh AB1 E rfl;have Ab8:=hid eb8.2;simp only [nP,zr,zq];rw [←hb8];replace FR0:=hid FR.out.le;clear E eb8 hb8;have Ab8r:=hid (show At wx2 b8 0 cR from At.sub (xs:=[]) (ys:=cR) (zs:=[.int .i64 code]) (by have:=Ab8.out;rw [V_cN.out] at this;rw [V_cR.out];exact this) rfl);have ZC:=hid (show At wx2 b8 66 [.int .i64 code] from At.sub (xs:=cR) (ys:=[.int .i64 code]) (zs:=[]) (by have:=Ab8.out;rw [V_cN.out] at this;rw [V_cR.out];exact this) (by rw [V_cR.out,qcB]));go_upto_region 8 with fail
  refine wF [⟨false,0,6,4,B1,0,27,35,cR,0,cR,[]⟩] [(34,.pointer (some ⟨b8,0,none⟩)),(35,.agg cR.toArray),(36,.pointer (some ⟨b8,66,none⟩)),(37,.int .i64 code),(7,.int .i64 code)] (by simp only [zr,zq];rfl) (by kernel_rfl) ?_ ?_ (fP1 bnC) ?_ uno ?_ ?_
  ·intro W' hW';have zc:=show W'.cell? ⟨b8,66,none⟩=some (.int .i64 code) from (ZC.out.below hW').cell (j:=0) rfl
   refine fxo ?_<|ldR (abl Ab8r hW') V_cR rfl<|fxo ?_<|fxo (wcg (by rfl) rfl rfl (fun W h=>by simp [loadVar,h,go_sem]) zc (wqn (by simp only [zq])))<|fxs rfl<|fxo ?_<|fxn;all_goals (go_big_quiet_step (fail);exact wqn rfl)
  ·intro W' hK';have zc:=show W'.cell? ⟨b8,66,none⟩=some (.int .i64 code) from (At.keep hK' ZC.out (oP _ _ (fun _=>(by show B1≠b8;omega)) oN)).cell (j:=0) rfl
   have rd0:=akh Ab8r hK' (by show B1≠b8;omega);refine fxi ?_<|ldR rd0 V_cR rfl<|fxi ?_<|fxo (wcg (by rfl) rfl rfl (fun W h=>by simp [loadVar,h,go_sem]) zc (wqn (by simp only [zq])))<|fxs (by kernel_rfl)<|fxi ?_<|fxn;all_goals (first|(refine .inr ?_;go_big_quiet_step (fail);exact wqn rfl)|exact .inl (by kernel_rfl))
  ·exact fP1 (fun _=>⟨AB1.out.lt,rfl,At.room AB1.out (qR V_cz.out) (qR V_cR.out)⟩)
  ·exact fP1 (sR V_cR (fun _=>rfl) rfl)
  intro β wx3 E;replace FR:=ffh FR E (by show B0≤B1;omega);replace AB0:=afh AB0 E (by show B1≠B0;omega);replace AB1:=hid (show At wx3 B1 0 cR from E.atOld mms rfl AB1.out.lt);replace Ab8:=afh Ab8 E (by show B1≠b8;omega);replace Ab8r:=afh Ab8r E (by show B1≠b8;omega);simp only [nP,zr,zq];replace FR0:=hid FR.out.le;clear E;go_wp2_with fail
  have hld:=AB1.out.read (P:=Tryz.prog) Tryz.underlying27 rfl (qR V_cR.out);refine bodyPost_ret (v:=.tuple #[.agg cR.toArray,.int .i64 code]) (by simp [results,Tryz.results12,asAddr,hld]) rfl ?_;exact ⟨rfl,fend HB0 FR⟩
end Go.Proofs.YtemoddmadfoaiaaGreat
