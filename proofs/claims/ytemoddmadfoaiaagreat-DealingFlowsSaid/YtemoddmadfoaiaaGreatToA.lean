import Derived.Test.YtemoddmadfoaiaaGreatBigH
import Derived.Deep.RegionHeld3
set_option linter.unusedVariables false
set_option linter.unusedSimpArgs false
set_option maxRecDepth 100000
set_option maxHeartbeats 2000000
namespace Go.Proofs.YtemoddmadfoaiaaGreat
open Go.RowKit Big
open Lib (hid)
theorem wlq {P:Program} {ops:Array Oper} {w:World} {Q:Act→Prop} {a:Act} {op:Oper} {rest:List Oper} (hgd:Region.wanted op (yielded ops a.tmps)=true) (ty:TypeId) (x:Operand) (ho:op.op=.load ty x)
  (b o:Nat) (hx:a.eval x=.pointer (some ⟨b,o,none⟩)) (cs:List Value) (d:TypeDesc) (hc:w.rangeAt b o cs)
  (hu:P.underlying ty=some d) (hd:d.isRow=true) (hi:(P.info? ty).map (·.size)=some cs.length) (h:wpQuiet P ops (fun w'=>∃ p:GB,w'=gw w p.d p.os) Q rest (a.put op.dst (.agg cs.toArray))) :
  wpQuiet P ops (fun w'=>∃ p:GB,w'=gw w p.d p.os) Q (op::rest) a:=by
 refine wpQuiet_step (fun K hK=>?_)
 rw [if_pos hgd]
 refine ⟨.agg cs.toArray,fun W hW=>?_,hK _ h⟩
 obtain ⟨p,rfl⟩:=hW
 unfold Oper.quietAt execOp
 simp only [ho,hx,Instr.loadAt,Instr.sureAddr,Sem.run_bind,Sem.run_pure,Result.andThen_ok,run_loadVar_mid (gw w p.d p.os) b o ty cs d (qaH hc (qbG w p.d p.os)) hu hd hi]
 exact ⟨rfl,rfl⟩
theorem wqB {P:Program} {ops:Array Oper} {C:World→Prop} {Q:Act→Prop} {a:Act} {op:Oper} {rest:List Oper} (hgd:op.guard=none) (ty:TypeId) (xs:Array (Nat × Operand)) (ho:op.op=.build ty xs)
  (vs:List (Nat × Value)) (hx:xs.toList.map (fun p=>(p.1,a.eval p.2))=vs) (Z:Array Value) (hb:P.built ty vs=some Z) (h:wpQuiet P ops C Q rest (a.put op.dst (.agg Z))):wpQuiet P ops C Q (op::rest) a:=by
 refine wpQuiet_step (fun K hK=>?_)
 rw [if_pos (by simp [Region.wanted,hgd])]
 refine ⟨.agg Z,fun W hW=>?_,hK _ h⟩
 unfold Oper.quietAt execOp
 have hr:=run_build (P:=P) W ty vs.toArray Z (by simpa using hb)
 have hx2:xs.map (fun p=>(p.1,a.eval p.2))=vs.toArray:=by rw [←hx];apply Array.toList_inj.1;simp
 simp [ho,hx2,hr,Oper.quietUpon]
theorem qvY (v:Nat) (n:Bool) (w:World) (hv:v<BB^32) (hn:n=!decide (v=0)) :
  Calls Tryz.prog 139 #[.bool true,mV v] w fun e w'=>e=.returned (iV n v)∧Below w.heap.size w w':=by
 obtain ⟨z,hz⟩:∃ z,z=decide (v=0):=⟨_,rfl⟩
 have hnz:n=!z:=by rw [hz,hn]
 have HZ:=hid (fun W=>qhJ v z W hv hz)
 obtain ⟨cs,hcs⟩:∃ cs,cs=lv 32 v:=⟨_,rfl⟩
 have hl:cs.length=32:=by rw [hcs,qlL]
 have HSZ:=hid (show (Tryz.prog.info? 23).map (·.size)=some cs.length by rw [hl];exact Tryz.infoM)
 have HU:=hid Tryz.underlying23
 have HONE:=hid (show ∀ u∈Value.bool n::cs,u.oneCell'=true by rw [hcs];exact qfG n v)
 have HL:=hid hl
 have HZ2:=hid (fun W=>show Calls Tryz.prog 137 #[.agg cs.toArray] W (fun e w'=>e=.returned (.bool z)∧Below W.heap.size W w') by rw [hcs];exact HZ.out W)
 unfold mV iV
 rw [←hcs]
 have hbase:=qcN w cs 23
 clear hcs hl hv hz hn
 go_enter Tryz.func139,Tryz.ntmps139
 go_upto_region 1 with fail
 obtain ⟨w0,hw0⟩:∃ w0,w0=(w.alloc (.cells cs.toArray 23)).alloc (.cells (Value.bool false::lv 32 0).toArray 25):=⟨_,rfl⟩
 have HR:=hid (show w0.rangeAt w.heap.size 0 cs by rw [hw0];exact fun j v hv=>World.rangeAt_alloc hbase _ j v hv)
 have HT:=hid (show w0.there (w.heap.size+1) 0 33 by rw [hw0];have:=qjN (w.alloc (.cells cs.toArray 23)) 25;rwa [World.size_alloc] at this)
 have HW:=hid (show Below w.heap.size w w0 by rw [hw0];exact ((Below.refl w.heap.size w).alloc (Nat.le_refl _) (.cells cs.toArray 23)).alloc (by simp) (.cells (Value.bool false::lv 32 0).toArray 25))
 have hsz0:w0.heap.size=w.heap.size+1+1:=by rw [hw0];simp
 rw [qcF] at hw0
 rw [←hw0]
 clear hw0 hbase
 go_cut [5] from 5 to 12 (fun p5 wx=>Below w.heap.size w wx∧wx.rangeAt (w.heap.size+1) 0 (.bool n::cs))
 case first =>
  refine qbE 8 (by kernel_rfl) (by kernel_rfl) ?_
  simp only [List.take_succ_cons,List.take_zero,List.drop_succ_cons,List.drop_zero]
  iterate 2 go_big_quiet_step (fail)
  refine wlq (by rfl) _ _ rfl w.heap.size 0 rfl cs _ HR.out HU.out rfl HSZ.out ?_
  simp only [Act.put,List.setIfInBounds_toArray,List.set_cons_zero,List.set_cons_succ]
  go_big_quiet_step ((go_at_call 137;exact qaA (HZ2.out _)))
  iterate 2 go_big_quiet_step (fail)
  refine qaL rfl _ _ rfl w.heap.size 0 rfl cs _ HR.out HU.out rfl HSZ.out ?_
  simp only [Act.put,List.setIfInBounds_toArray,List.set_cons_zero,List.set_cons_succ]
  try rw [←hnz]
  refine wqB rfl _ _ rfl _ rfl _ (qiM n cs HL.out) ?_
  simp only [Act.put,List.setIfInBounds_toArray,List.set_cons_zero,List.set_cons_succ]
  refine wpQuiet_nil ?_
  intro w' hw'
  obtain ⟨p,rfl⟩:=hw'
  have hT2:=qaT HT.out (qbG w0 p.d p.os) (by omega)
  have hB2:=HW.out.trans ((qbG w0 p.d p.os).mono HW.out.size)
  obtain ⟨w2,hw2⟩:∃ w2,w2=gw w0 p.d p.os:=⟨_,rfl⟩
  rw [←hw2] at hT2 hB2 ⊢
  refine wpList_store_mid rfl _ _ _ rfl (w.heap.size+1) 0 _ rfl rfl ?ht ?hi ?h1 ?_
  case ht=>intro j hj;exact hT2 j (by simpa [HL.out] using hj)
  case hi=>rw [show (Value.bool n::cs).toArray.size=33 by simp [HL.out]];exact Tryz.infoI
  case h1=>exact all_oneCell_toArray HONE.out
  go_wp2_with fail
  try simp only [Act.put,List.setIfInBounds_toArray,List.set_cons_zero,List.set_cons_succ]
  go_meet
  refine ⟨qaB (by omega) _ _ _ hB2,?_⟩
  exact World.rangeAt_setCells_same _ _ _ _ (fun j hj=>hT2 j (by simpa [HL.out] using hj))
 case rest =>
  obtain ⟨hb,hrg⟩:=hcut
  have hld:=run_loadVar_mid (P:=Tryz.prog) wc (w.heap.size+1) 0 25 (.bool n::cs) _ hrg Tryz.underlying25 rfl (by rw [show (Value.bool n::cs).length=33 by simp [HL.out]];exact Tryz.infoI)
  go_wp2_with fail
  refine bodyPost_ret (v:=.agg (Value.bool n::cs).toArray) (by simp [results,Tryz.results139,asAddr,hld]) rfl ?_
  exact ⟨rfl,hb⟩
def cs1 (neg:Bool) (v:Nat):Bool:=neg&&!decide (v=0)
theorem qqK (neg:Bool) (v:Nat) (w:World) (hv:v<BB^32) :
  Calls Tryz.prog 139 #[.bool neg,mV v] w fun e w'=>e=.returned (iV (cs1 neg v) v)∧Below w.heap.size w w':=by
 cases neg with
 | false=>exact qnS v w hv
 | true=>exact qvY v _ w hv (by simp [cs1])
set_option maxHeartbeats 4000000
theorem qaV {P:Program} {ops:Array Oper} {rest:List Oper} {op:Oper} {a:Act} {w:World} {Q:Exit→Act→World→Prop} (hgd:Region.wanted op (yielded ops a.tmps)=true) (ty:TypeId) (x:Operand) (ho:op.op=.load ty x)
  (b o:Nat) (hx:a.eval x=.pointer (some ⟨b,o,none⟩)) (cs:List Value) (d:TypeDesc) (hc:w.rangeAt b o cs)
  (hu:P.underlying ty=some d) (hd:d.isRow=true) (hi:(P.info? ty).map (·.size)=some cs.length)
  (h:wpList P ops Q rest (a.put op.dst (.agg cs.toArray)) w):wpList P ops Q (op::rest) a w:=by
 unfold wpList
 rw [if_pos hgd]
 exact .inl (wp_load_mid ty x ho b o hx cs d hc hu hd hi h)
theorem qqM (w:World) (a b:Nat) (t:TypeId):∃ w0:World,w0=(((w.alloc (.cells (lv 32 a).toArray t)).alloc (.cells (lv 32 b).toArray t)).alloc (.cells (lv 32 0).toArray t)).alloc (.cells (lv 32 0).toArray t)∧Below w.heap.size w w0∧w0.heap.size=w.heap.size+1+1+1+1 ∧
  MagAt w0 w.heap.size 0 32 a∧MagAt w0 (w.heap.size+1) 0 32 b∧qMO w0 (w.heap.size+1+1) 0 32 0∧qMO w0 (w.heap.size+1+1+1) 0 32 0:=by
 obtain ⟨w1,h1,hb1,hs1,hA,hB⟩:=qkR w a b t
 obtain ⟨w2,h2⟩:∃ w2,w2=w1.alloc (.cells (lv 32 0).toArray t):=⟨_,rfl⟩
 have hs2:w2.heap.size=w1.heap.size+1:=by rw [h2];simp
 have hb2:Below w1.heap.size w1 w2:=by rw [h2];exact (Below.refl _ _).alloc (Nat.le_refl _) _
 have hb3:Below w2.heap.size w2 (w2.alloc (.cells (lv 32 0).toArray t)):=(Below.refl _ _).alloc (Nat.le_refl _) _
 have hR:qMO w2 w1.heap.size 0 32 0:=by rw [h2];exact qMO.new w1 32 0 t
 have hQ:=qMO.new w2 32 0 t
 rw [hs2,hs1] at hQ
 have hR3:=hR.up hb3 (by omega)
 rw [hs1] at hR3
 have hb13:=hb2.trans (hb3.mono hb2.size)
 refine ⟨_,rfl,?_,?_,?_,?_,?_,?_⟩
 all_goals rw [←h1,←h2]
 ·exact hb1.trans (hb13.mono hb1.size)
 ·rw [World.size_alloc,hs2,hs1]
 ·exact hA.up hb13
 ·exact hB.up hb13
 ·exact hR3
 ·exact hQ
theorem qaU {b o n:Nat}:∀ {w:World} (h:w.there b o n) (vs:List Value) {b2:Nat} (o2:Nat) (hb:b2≠b),(w.setCells b2 o2 vs).there b o n
 | _,h,[],_,_,_=>h
 | w,h,v::vs,b2,o2,hb=>qaU (w:=w.setCell ⟨b2,o2,none⟩ v) (qmE h _ _ hb) vs (o2+1) hb
theorem qaI {b o:Nat} {cs:List Value}:∀ {w:World} (h:w.rangeAt b o cs) (vs:List Value) (b2 o2:Nat) (hb:b2≠b),(w.setCells b2 o2 vs).rangeAt b o cs
 | _,h,[],_,_,_=>h
 | w,h,v::vs,b2,o2,hb=>qaI (w:=w.setCell ⟨b2,o2,none⟩ v) (fun j x hx=>qeQ (h j x hx) _ _ hb) vs b2 (o2+1) hb
theorem qnL (a b:Nat) (w:World) (ha:a<BB^2) (hb:b<BB^2) (h0:b≠0) :
  Calls Tryz.prog 163 #[mV a,mV b] w fun e w'=>e=.returned (.tuple #[mV (a / b),mV (a%b)])∧Below w.heap.size w w':=by
 have up:BB^2≤BB^32:=Nat.pow_le_pow_right qaY (by omega)
 obtain ⟨N,hN32,hN⟩:=qLE a 32 (Nat.lt_of_lt_of_le ha up)
 obtain ⟨K,hK32,hK⟩:=qLE b 32 (Nat.lt_of_lt_of_le hb up)
 have hN2:(N:Int)≤2:=by have:=qnC ha hN;omega
 have hK2:(K:Int)≤2:=by have:=qnC hb hK;omega
 obtain ⟨q,hq⟩:∃ q,q=a / b:=⟨_,rfl⟩
 obtain ⟨r,hr⟩:∃ r,r=a%b:=⟨_,rfl⟩
 have hq2:q<BB^2:=by rw [hq];exact Nat.lt_of_le_of_lt (Nat.div_le_self _ _) ha
 have hr2:r<BB^2:=by rw [hr];exact Nat.lt_of_le_of_lt (Nat.mod_le _ _) ha
 obtain ⟨w0,hw0,hb0,hs0,hA,hB,hQ,hR⟩:=qqM w a b 23
 have HLA:=hid (fun W=>qfW a N W (Nat.lt_of_lt_of_le ha up) hN)
 have HLB:=hid (fun W=>qfW b K W (Nat.lt_of_lt_of_le hb up) hK)
 have HWA:=hid (fun W=>jaD a W ha)
 have HWB:=hid (fun W=>jaD b W hb)
 have HSQ:=hid (fun W=>qpN q W hq2)
 have HSR:=hid (fun W=>qpN r W hr2)
 have HW:=hid hb0
 rw [qbP] at hw0
 rw [←hq,←hr]
 unfold mV
 obtain ⟨ca,hca⟩:∃ ca,ca=lv 32 a:=⟨_,rfl⟩
 obtain ⟨cb,hcb⟩:∃ cb,cb=lv 32 b:=⟨_,rfl⟩
 obtain ⟨cq,hcq⟩:∃ cq,cq=lv 32 q:=⟨_,rfl⟩
 obtain ⟨cr,hcr⟩:∃ cr,cr=lv 32 r:=⟨_,rfl⟩
 have HLX:=hid (fun W (cs:List Value) (n:Nat) (h:(cs=ca∧n=N)∨(cs=cb∧n=K))=>show Calls Tryz.prog 162 #[.agg cs.toArray] W (fun e w'=>e=.returned (.int .i64 n)∧Below W.heap.size W w') by
  rcases h with ⟨h1,h2⟩|⟨h1,h2⟩
  ·rw [h1,h2,hca];exact HLA.out W
  ·rw [h1,h2,hcb];exact HLB.out W)
 have HWX:=hid (fun W (cs:List Value) (n:Nat) (h:(cs=ca∧n=a)∨(cs=cb∧n=b))=>show Calls Tryz.prog 185 #[.agg cs.toArray] W (fun e w'=>e=.returned (.int .u64 n)∧Below W.heap.size W w') by
  rcases h with ⟨h1,h2⟩|⟨h1,h2⟩
  ·rw [h1,h2,hca];exact HWA.out W
  ·rw [h1,h2,hcb];exact HWB.out W)
 have HSX:=hid (fun W (cs:List Value) (n:Nat) (h:(n=q∧cs=cq)∨(n=r∧cs=cr))=>show Calls Tryz.prog 184 #[.int .u64 n] W (fun e w'=>e=.returned (.agg cs.toArray)∧Below W.heap.size W w') by
  rcases h with ⟨h1,h2⟩|⟨h1,h2⟩
  ·rw [h1,h2,hcq];exact HSQ.out W
  ·rw [h1,h2,hcr];exact HSR.out W)
 have lca:ca.length=32:=by rw [hca,qlL]
 have lcb:cb.length=32:=by rw [hcb,qlL]
 have lcq:cq.length=32:=by rw [hcq,qlL]
 have lcr:cr.length=32:=by rw [hcr,qlL]
 have HRA:=hid (show w0.rangeAt w.heap.size 0 ca by rw [hca];exact hA)
 have HRB:=hid (show w0.rangeAt (w.heap.size+1) 0 cb by rw [hcb];exact hB)
 have HQ:=hid hQ.there
 have HR:=hid hR.there
 have sz:∀ cs:List Value,cs.length=32→(Tryz.prog.info? 23).map (·.size)=some cs.length:=fun cs h=>by rw [h];exact Tryz.infoM
 have HSZ:=hid sz
 have HLEN:=hid (And.intro lca (And.intro lcb (And.intro lcq lcr)))
 have HONE:=hid (And.intro (all_oneCell_toArray (qcB 32 q)) (all_oneCell_toArray (qcB 32 r)))
 rw [←hcq,←hcr] at HONE
 have HU:=hid Tryz.underlying23
 rw [←hca,←hcb] at hw0 ⊢
 rw [←hcq,←hcr]
 have eq1:(a:Int) / (b:Int)=(q:Int):=by rw [hq];rfl
 have eq2:(a:Int)%(b:Int)=(r:Int):=by rw [hr];rfl
 have wq:IntKind.u64.wrap (q:Int)=(q:Int):=by unfold BB at hq2;rw [IntKind.wrap_u64];omega
 have wr:IntKind.u64.wrap (r:Int)=(r:Int):=by unfold BB at hr2;rw [IntKind.wrap_u64];omega
 have HAB:=hid (And.intro ha hb)
 obtain ⟨va,hva⟩:∃ va,va=ca.toArray:=⟨_,rfl⟩
 obtain ⟨vb,hvb⟩:∃ vb,vb=cb.toArray:=⟨_,rfl⟩
 rw [←hva,←hvb] at hw0 ⊢
 clear hN hK hN32 hK32 hq2 hr2 hb0 hA hB hQ hR hca hcb hcq hcr lca lcb lcq lcr sz ha hb up hq hr hva hvb
 go_enter Tryz.func163,Tryz.ntmps163
 go_upto_region 1 with fail
 rw [←hw0]
 obtain ⟨B0,hB0⟩:∃ B0,B0=w.heap.size:=⟨_,rfl⟩
 have HBE:=hid hB0
 rw [←hB0] at HRA HRB HQ HR hs0 ⊢
 clear hw0 hB0
 go_wp2_with (first
  | (refine wpList_load_mid rfl _ _ rfl B0 0 rfl ca _ HRA.out HU.out rfl (HSZ.out _ HLEN.out.1) ?_))
 refine (HLX.out _ _ _ (.inl ⟨rfl,rfl⟩)).mono ?_
 rintro e w1 ⟨rfl,hb1⟩
 have HRA1:=hid (qaH HRA.out hb1)
 have HRB1:=hid (qaH HRB.out hb1)
 have HB1:=hid hb1
 clear hb1
 go_wp2_with (first
  | (refine qaV (by rfl) _ _ rfl (B0+1) 0 rfl cb _ HRB1.out HU.out rfl (HSZ.out _ HLEN.out.2.1) ?_))
 refine (HLX.out _ _ _ (.inr ⟨rfl,rfl⟩)).mono ?_
 rintro e w2 ⟨rfl,hb2⟩
 have hb12:=HB1.out.trans (hb2.mono HB1.out.size)
 have hs2:B0+1+1+1+1≤w2.heap.size:=by have:=hb12.size;omega
 have ra:=qaH HRA.out hb12
 have rb:=qaH HRB.out hb12
 have HQ2:=hid (qaT HQ.out hb12 (by omega))
 have HR2:=hid (qaT HR.out hb12 (by omega))
 have HW2:=hid (HW.out.trans (hb12.mono HW.out.size))
 have sa:=HSZ.out _ HLEN.out.1
 have sb:=HSZ.out _ HLEN.out.2.1
 have u49:=HU.out
 clear hb2 hb12
 go_upto_region 2 with fail
 refine qbE 12 (by kernel_rfl) (by kernel_rfl) ?_
 simp only [List.take_succ_cons,List.take_zero,List.drop_succ_cons,List.drop_zero]
 repeat (first
  | (refine qaL rfl _ _ rfl B0 0 rfl ca _ ra u49 rfl sa ?_;try simp only [Act.put,List.setIfInBounds_toArray,List.set_cons_zero,List.set_cons_succ])
  | (refine qaL rfl _ _ rfl (B0+1) 0 rfl cb _ rb u49 rfl sb ?_;try simp only [Act.put,List.setIfInBounds_toArray,List.set_cons_zero,List.set_cons_succ])
  | go_big_quiet_step ((go_at_call 185;exact qaA (HWX.out _ _ _ (by first|exact .inl ⟨rfl,rfl⟩|exact .inr ⟨rfl,rfl⟩))))
  | go_big_quiet_step ((go_at_call 184;exact qaA (HSX.out _ _ _ (by first|exact .inl ⟨rfl,rfl⟩|exact .inr ⟨rfl,rfl⟩)))))
 refine wpQuiet_nil ?_
 intro w' hw'
 obtain ⟨p,rfl⟩:=hw'
 have hbg:=qbG w2 p.d p.os
 obtain ⟨w3,hw3⟩:∃ w3,w3=gw w2 p.d p.os:=⟨_,rfl⟩
 rw [←hw3] at hbg ⊢
 have hq3:=qaT HQ2.out hbg (by omega)
 have hr3:=qaT HR2.out hbg (by omega)
 have HW3:=hid (HW2.out.trans (hbg.mono HW2.out.size))
 clear hbg hw3 eq1 eq2 wq wr
 refine wpList_store_mid rfl _ _ _ rfl (B0+1+1) 0 _ rfl rfl ?ht (by rw [List.size_toArray];exact HSZ.out _ HLEN.out.2.2.1) HONE.out.1 ?_
 case ht=>rw [List.size_toArray,HLEN.out.2.2.1];exact hq3
 simp only [Act.put,List.setIfInBounds_toArray,List.set_cons_zero,List.set_cons_succ]
 have hr4:(w3.setCells (B0+1+1) 0 cq).there (B0+1+1+1) 0 32:=qaU hr3 cq 0 (by omega)
 refine wpList_store_mid rfl _ _ _ rfl (B0+1+1+1) 0 _ rfl rfl ?ht (by rw [List.size_toArray];exact HSZ.out _ HLEN.out.2.2.2) HONE.out.2 ?_
 case ht=>rw [List.size_toArray,HLEN.out.2.2.2];exact hr4
 simp only [Act.put,List.setIfInBounds_toArray,List.set_cons_zero,List.set_cons_succ]
 have hle2:w.heap.size≤B0+1+1:=by rw [←HBE.out];omega
 have hle3:w.heap.size≤B0+1+1+1:=by omega
 have HWE:=hid (qaB hle3 cr 0 _ (qaB hle2 cq 0 _ HW3.out))
 have g1:=World.rangeAt_setCells_same w3 (B0+1+1) 0 cq (by rw [HLEN.out.2.2.1];exact hq3)
 have g2:=qaI g1 cr (B0+1+1+1) 0 (by omega)
 have g3:=World.rangeAt_setCells_same (w3.setCells (B0+1+1) 0 cq) (B0+1+1+1) 0 cr (by rw [HLEN.out.2.2.2];exact hr4)
 try simp only [List.toList_toArray]
 go_wp2_with fail
 have hld1:=run_loadVar_mid (P:=Tryz.prog) _ _ _ _ _ _ g2 Tryz.underlying23 rfl (HSZ.out _ HLEN.out.2.2.1)
 have hld2:=run_loadVar_mid (P:=Tryz.prog) _ _ _ _ _ _ g3 Tryz.underlying23 rfl (HSZ.out _ HLEN.out.2.2.2)
 refine bodyPost_ret (v:=.tuple #[.agg cq.toArray,.agg cr.toArray]) (by simp [results,Tryz.results163,asAddr,hld1,hld2]) rfl ?_
 exact ⟨rfl,HWE.out⟩
end Go.Proofs.YtemoddmadfoaiaaGreat
namespace Go.Proofs.YtemoddmadfoaiaaGreat
open Go.RowKit Big
namespace Big
theorem jcS {x:Nat} (hx:x<BB):bits BinOp.and IntKind.u32 (x:Int) 1=((x%2:Nat):Int):=by
 have:=u32_and_nat x 1 (by unfold BB at hx;omega) (by omega)
 rw [Nat.and_one_is_mod] at this
 exact this
theorem qzR {s:Nat} (hs:s<32):IntKind.u32.wrap ((2:Int)^s)=((2^s:Nat):Int):=by
 have h:2^s≤2^31:=Nat.pow_le_pow_right (by omega) (by omega)
 have e:((2:Int)^s)=((2^s:Nat):Int):=by simp
 have h3:(2:Nat)^31=2147483648:=by decide
 rw [e]
 obtain ⟨y,hy⟩:∃ y,y=2^s:=⟨_,rfl⟩
 rw [←hy] at h ⊢
 rw [IntKind.wrap_u32]
 omega
theorem jcC {q i:Nat} (hq:q%2^(i+1)=0):lim q (i / 32)%2^(i%32+1)=0:=by
 obtain ⟨Q,hQ⟩:∃ Q,q=2^(i+1)*Q:=⟨q / 2^(i+1),by have:=Nat.mod_add_div q (2^(i+1));omega⟩
 have e1:2^(i+1)=BB^(i / 32)*2^(i%32+1):=by rw [qfA,←Nat.pow_add];congr 1;omega
 have e2:q / BB^(i / 32)=2^(i%32+1)*Q:=by
  rw [hQ,e1,Nat.mul_assoc,Nat.mul_div_cancel_left _ (BP _)]
 have e3:BB=2^(i%32+1)*2^(32 - (i%32+1)):=by rw [qcP,←Nat.pow_add];congr 1;omega
 unfold lim
 rw [e2,e3,Nat.mod_mul_right_mod]
 exact Nat.mul_mod_right _ _
theorem jaT {q i y:Nat} (hq:q%2^(i+1)=0) (hy:y=2^(i%32)) :
  bits BinOp.or IntKind.u32 (lim q (i / 32):Nat) (y:Nat)=((lim q (i / 32)+y:Nat):Int)∧lim q (i / 32)+y<BB∧upd q (i / 32) (lim q (i / 32)+y)=q+2^i:=by
 have hl:=qaE q (i / 32)
 have hz:=jcC hq
 obtain ⟨L,hL⟩:∃ L,L=lim q (i / 32):=⟨_,rfl⟩
 rw [←hL] at hl hz ⊢
 have hs:i%32<32:=Nat.mod_lt _ (by omega)
 have h2:2^(i%32+1)=2*y:=by rw [hy,Nat.pow_succ];omega
 have hy0:0<y:=by rw [hy];exact tp _
 have hyb:y<BB:=by
  rw [hy,qcP];exact Nat.pow_lt_pow_right (by omega) hs
 have h3:BB=2^(i%32+1)*2^(32 - (i%32+1)):=by rw [qcP,←Nat.pow_add];congr 1;omega
 obtain ⟨T,hT⟩:∃ T,T=2^(32 - (i%32+1)):=⟨_,rfl⟩
 rw [←hT,h2] at h3
 rw [h2] at hz
 obtain ⟨M,hM⟩:∃ M,L=2*y*M:=⟨L / (2*y),by have:=Nat.mod_add_div L (2*y);omega⟩
 have hMT:M<T:=by
  rcases Nat.lt_or_ge M T with h|h
  ·exact h
  ·have:=Nat.mul_le_mul_left (2*y) h
   omega
 have hle:2*y*M+2*y≤2*y*T:=by rw [←Nat.mul_succ];exact Nat.mul_le_mul_left _ hMT
 refine ⟨?_,by omega,?_⟩
 ·rw [u32_or_nat L y (by unfold BB at hl;omega) (by unfold BB at hyb;omega),qgV (i:=i%32+1) (by rw [h2];omega) (by rw [h2];exact hz)]
 ·have m1:=qaZ q (i / 32)
  have m2:=Nat.mod_add_div q (BB^(i / 32+1))
  rw [m1,←hL,Nat.mul_comm (BB^(i / 32+1))] at m2
  have e4:2^i=y*BB^(i / 32):=by rw [hy,qfA,←Nat.pow_add];congr 1;omega
  unfold upd
  rw [e4,Nat.add_mul]
  omega
theorem jcI {a b Q r:Nat} (h:a / 2^0=Q*b+r) (hr:r<b):Q=a / b∧r=a%b:=by
 rw [Nat.pow_zero,Nat.div_one] at h
 have hb:0<b:=by omega
 refine ⟨?_,?_⟩
 ·rw [h,Nat.add_comm,Nat.add_mul_div_right _ _ hb,Nat.div_eq_of_lt hr];omega
 ·rw [h,Nat.add_comm,Nat.add_mul_mod_self_right,Nat.mod_eq_of_lt hr]
theorem qzQ {a b mA nB:Nat} (ha:IsBits a mA) (hb:IsBits b (nB+1)) (h:nB<mA):a / 2^(mA - nB)<b:=by
 have h1:=hb.2 (by omega)
 rw [Nat.add_sub_cancel] at h1
 refine Nat.lt_of_lt_of_le ?_ h1
 rw [Nat.div_lt_iff_lt_mul (tp _),←Nat.pow_add,show nB+(mA - nB)=mA by omega]
 exact ha.1
theorem qwF {a b mA nB:Nat} (ha:IsBits a mA) (hb:IsBits b (nB+1)) (h:mA≤nB):a<b:=by
 have h1:=hb.2 (by omega)
 rw [Nat.add_sub_cancel] at h1
 exact Nat.lt_of_lt_of_le (Nat.lt_of_lt_of_le ha.1 (Nat.pow_le_pow_right (by omega) h)) h1
end Big
end Go.Proofs.YtemoddmadfoaiaaGreat
namespace Go.Proofs.YtemoddmadfoaiaaGreat
open Go.RowKit
section
variable {P:Program} {ops:Array Oper} {md:Region.Mode} {C:World→Prop}
def gateB (md:Region.Mode) (ops:Array Oper) (n:Nat):Bool :=
 (List.range (n - 1)).all (fun i=>(List.range n).any fun j=>decide (i<j)&&Region.waitsFor md ops j i)&&(List.range ops.size).all fun t=>decide (t<n) || Region.waitsFor md ops t (n - 1)
def lexT (md:Region.Mode) (ops:Array Oper) (T:Array Bool):Nat→Nat→Array Bool→Bool
 | 0,_,seen=>seen==T
 | f+1,k,seen=>(Region.ready md ops seen).contains k&&Region.free md ops seen k&&lexT md ops T f (k+1) (seen.setIfInBounds k true)
def headB (md:Region.Mode) (ops:Array Oper) (n:Nat) (T:Array Bool):Bool :=
 Region.noSelect ops&&decide (0<n)&&decide (n<ops.size)&&gateB md ops n&&(Region.ready md ops T).all (fun j=>decide (n≤j))&&lexT md ops T n 0 (Array.replicate ops.size false)
theorem qrQ {n:Nat} {seen:Array Bool} (hg:gateB md ops n=true) (hn0:0<n) (hn:n<ops.size) (inv:HeadInv md ops n seen) {i:Nat} (hi:i<n) (hun:seen.getD i true=false) {t:Nat} (ht:n≤t):t∉Region.ready md ops seen:=by
 intro hr
 simp only [gateB,Bool.and_eq_true] at hg
 obtain ⟨_,ot,hot,hall⟩:=mem_ready.1 hr
 have htl:t<ops.size:=(Array.getElem?_eq_some_iff.1 hot).1
 have hlast:seen.getD (n - 1) false=true:=by
  have h1:=List.all_eq_true.1 hg.2 t (List.mem_range.2 htl)
  simp only [Bool.or_eq_true,decide_eq_true_eq] at h1
  rcases h1 with h1|h1
  ·omega
  ·obtain ⟨o',ho',e,he,hb,hon⟩:=Region.waitsFor_spec h1
   obtain rfl:o'=ot:=Option.some.inj (ho'.symm.trans hot)
   rw [←hon];exact hall e he hb
 have hev:∀ (d j:Nat),n - 1 - j=d→j<n→seen.getD j false=true:=by
  intro d
  induction d using Nat.strongRecOn with
  | _ d ih =>
   intro j hd hj
   by_cases hjn:j=n - 1
   ·subst hjn;exact hlast
   ·have h1:=List.all_eq_true.1 hg.1 j (List.mem_range.2 (by omega))
    obtain ⟨k,hk,hk2⟩:=List.any_eq_true.1 h1
    simp only [Bool.and_eq_true,decide_eq_true_eq] at hk2
    obtain ⟨ok,hok,e,he,hb,hon⟩:=Region.waitsFor_spec hk2.2
    have hkn:=List.mem_range.1 hk
    rw [←hon]
    exact inv.closed k ok hok (ih (n - 1 - k) (by omega) k rfl hkn) e he hb
 have:=hev _ i rfl hi
 rw [getD_both hun] at this
 cases this
theorem qoX {n i:Nat} {oi:Oper} {v:Value} {L:Array Bool→Act→Prop} (hi:ops[i]?=some oi) (hsel:∀ (j:Nat) (o:Oper) cs b,ops[j]?=some o→o.op≠.select cs b)
  (hw:∀ seen,HeadInv md ops n seen→∀ i,i<n→seen.getD i true=false→∀ t,n≤t→t∉Region.ready md ops seen) (hin:i<n) (hdone:∀ seen a,L seen a→∀ j∈Region.ready md ops seen,n≤j) :
  ∀ (f:Nat) (seen:Array Bool) (a:Act),HeadInv md ops n seen →
   (∀ j oj,ops[j]?=some oj→j≠i→seen.getD j true=false→(∀ e∈oj.after,Region.binds md e=true→e.on≠i)→oi.apart ops oj=true) →
   i∈Region.ready md ops seen→YieldsIn P ops C oi v a →
   headQ P md ops C n L f (seen.setIfInBounds i true) (a.put oi.dst v)→headQ P md ops C n L (f+1) seen a:=by
 intro f
 induction f with
 | zero =>
  intro seen a inv _ hr hy H
  have hun:=(mem_ready.1 hr).1
  refine ⟨List.ne_nil_of_mem hr,fun j hj=>?_⟩
  have hjn:j<n:=Nat.lt_of_not_le fun h=>hw _ inv i hin hun j h hj
  refine ⟨hjn,?_⟩
  by_cases e:j=i
  ·subst e;exact hy.qOp hi H
  ·exact absurd (hdone _ _ H j (ready_mono hj e)) (by omega)
 | succ f ih =>
  intro seen a inv hfree hr hy H
  have hun:=(mem_ready.1 hr).1
  refine ⟨List.ne_nil_of_mem hr,fun j hj=>?_⟩
  have hjn:j<n:=Nat.lt_of_not_le fun h=>hw _ inv i hin hun j h hj
  refine ⟨hjn,?_⟩
  by_cases e:j=i
  ·subst e;exact hy.qOp hi H
  obtain ⟨hju,oj,hoj,hall⟩:=mem_ready.1 hj
  have hnot:∀ e∈oj.after,Region.binds md e=true→e.on≠i:=fun e he hb heq=>by
   have h1:=hall e he hb
   rw [heq,getD_both hun] at h1
   cases h1
  refine qOp_mono (fun a' h3=>ih _ a' (inv.set hj hjn) (fun k ok hk hki hu hno=>?_) (ready_mono hr (Ne.symm e)) h3.1 ?_)
   (qOp_put hoj (hfree j oj hoj e hju hnot) (fun cs b=>hsel i oi cs b hi) (fun cs b=>hsel j oj cs b hoj) hy (H.2 j (ready_mono hj e)).2)
  ·by_cases hjk:j=k
   ·subst hjk;exact hfree j ok hk hki hju hno
   ·exact hfree k ok hk hki (by rwa [getD_set_ne true hjk] at hu) hno
  ·rw [Array.setIfInBounds_comm _ _ e]
   exact h3.2
theorem quY {n:Nat} {T:Array Bool} {Lq:Act→Prop} (hsel:Region.noSelect ops=true) (hw:∀ seen,HeadInv md ops n seen→∀ i,i<n→seen.getD i true=false→∀ t,n≤t→t∉Region.ready md ops seen)
  (hT:∀ j∈Region.ready md ops T,n≤j) :
  ∀ (l:List Oper) (k:Nat) (seen:Array Bool) (a:Act),(∀ j,j<l.length→l[j]?=ops[k+j]?)→k+l.length=n→HeadInv md ops n seen →
  lexT md ops T l.length k seen=true→wpQuiet P ops C Lq l a→headQ P md ops C n (fun seen' a'=>seen'=T∧Lq a') l.length seen a:=by
 intro l
 induction l with
 | nil =>
  intro k seen a _ hk _ hB h
  exact ⟨by simpa [lexT] using hB,h⟩
 | cons o l ih =>
  intro k seen a hl hk inv hB h
  have h0:ops[k]?=some o:=by simpa using (hl 0 (by simp)).symm
  simp only [List.length_cons,lexT,Bool.and_eq_true] at hB hk
  obtain ⟨⟨hr,hf⟩,hB'⟩:=hB
  have hkn:k<n:=by omega
  have hr':k∈Region.ready md ops seen:=by simpa using hr
  have hst:qOp P ops C k (wpQuiet P ops C Lq l) a:=by unfold qOp;simp only [h0];exact h
  obtain ⟨v,hy,hK⟩:=yieldsIn_of_qOp h0 hst
  refine qoX h0 (Region.noSelect_spec hsel) hw hkn (fun seen' a' hL=>by rw [hL.1];exact hT) l.length seen a inv (Region.free_spec h0 hf) hr' hy ?_
  exact ih (k+1) _ _ (fun j hj=>by have:=hl (j+1) (by simp;omega);simpa [Nat.add_assoc,Nat.add_comm 1 j] using this) (by omega) (inv.set hr' hkn) hB' hK
theorem qfB {id:Nat} {Q:Exit→Act→World→Prop} {a:Act} {w:World} {l:List Oper} (n:Nat) (T:Array Bool) (S:World→Prop) (hm:P.follows .mixedOrders=true) (hB:headB .any l.toArray n T=true) (hC:C w.drew)
  (h:wpQuiet P l.toArray C (fun a'=>∀ w',C w'→wpAnyH P .any l.toArray (NoPanic Q) S (l.length - n) T a' w') (l.take n) a):(Code.region id l.toArray true).wp P Q a w:=by
 simp only [headB,Bool.and_eq_true,decide_eq_true_eq] at hB
 obtain ⟨⟨⟨⟨⟨hsel,hn0⟩,hn⟩,hg⟩,hT⟩,hlex⟩:=hB
 have hn':n<l.length:=by simpa using hn
 have htl:(l.take n).length=n:=by simp;omega
 have inv0:HeadInv .any l.toArray n (Array.replicate l.toArray.size false) :=
  ⟨by simp,fun j oj _ hl=>(by rw [getD_replicate_false] at hl;cases hl),fun t _ ht=>getD_in (by simpa using ht) (getD_replicate_false _ _)⟩
 have H:=quY (md:=.any) (T:=T) hsel (fun seen inv i hi hun t ht=>qrQ hg hn0 hn inv hi hun ht) (fun j hj=>by simpa using List.all_eq_true.1 hT j hj) (l.take n) 0 _ a (fun j hj=>by
  have hj':j<n:=by rw [htl] at hj;exact hj
  simp [hj']) (by simpa using htl) inv0 (by rw [htl];exact hlex) h
 refine wp_region_noPanic (wp_region_any hm ?_)
 have:=qgZ (Q':=NoPanic Q) (g:=l.length - n) (fun seen a' w' hw' hL=>by
  rw [hL.1]
  exact wpAny_of_held _ _ _ _ (hL.2 w' hw')) _ _ _ _ hC H
 rw [htl,show n+(l.length - n)=l.toArray.size by simp;omega] at this
 exact this
theorem qfC {id:Nat} {Q:Exit→Act→World→Prop} {a:Act} {w:World} {l:List Oper} (n:Nat) (T:Array Bool) (S:World→Prop) (hm:P.follows .mixedOrders=true) (hB:headB .any l.toArray n T=true)
  (h:wpQuiet P l.toArray (fun w'=>∃ p:GB,w'=gw w p.d p.os) (fun a'=>∀ w',(∃ p:GB,w'=gw w p.d p.os)→wpAnyH P .any l.toArray (NoPanic Q) S (l.length - n) T a' w') (l.take n) a):(Code.region id l.toArray true).wp P Q a w :=
 qfB (C:=fun w'=>∃ p:GB,w'=gw w p.d p.os) n T S hm hB (qcJ (qbH (Below.refl _ _))) h
theorem qsU {P:Program} {ops:Array Oper} {md:Region.Mode} {T:Array Bool} {Q:Exit→Act→World→Prop} {a:Act} {w:World} (i0 i1 i2 i3:Nat) {o0 o1 o2 o3:Oper} (d0 d1 d3:Tmp) (ty:TypeId) (x p:Operand) (b:Nat) (c0:List Value) (u:Value)
  (k0:ops[i0]?=some o0) (k1:ops[i1]?=some o1) (k2:ops[i2]?=some o2) (k3:ops[i3]?=some o3) (hsel:Region.noSelect ops=true)
  (f0:Region.free md ops T i0=true) (r0:(Region.ready md ops T).contains i0=true)
  (f1:Region.free md ops (T.setIfInBounds i0 true) i1=true) (r1:(Region.ready md ops (T.setIfInBounds i0 true)).contains i1=true)
  (r2:Region.ready md ops ((T.setIfInBounds i0 true).setIfInBounds i1 true)=[i2]) (r3:Region.ready md ops (((T.setIfInBounds i0 true).setIfInBounds i1 true).setIfInBounds i2 true)=[i3])
  (r4:Region.ready md ops ((((T.setIfInBounds i0 true).setIfInBounds i1 true).setIfInBounds i2 true).setIfInBounds i3 true)=[])
  (g0:o0.guard=none) (g1:o1.guard=none) (g2:o2.guard=none) (g3:o3.guard=none)
  (n0:o0.dst=some d0) (n1:o1.dst=some d1) (n2:o2.dst=none) (n3:o3.dst=some d3)
  (h0:o0.op=.extract x 0) (h1:o1.op=.extract x 1) (h2:o2.op=.store ty p (.tmp d0)) (h3:o3.op=.assign (.tmp d1))
  (e0:a.eval x=.tuple #[.agg c0.toArray,u]) (e1:(a.put (some d0) (.agg c0.toArray)).eval x=.tuple #[.agg c0.toArray,u])
  (e2:((a.put (some d0) (.agg c0.toArray)).put (some d1) u).eval p=.pointer (some ⟨b,0,none⟩)) (e2':((a.put (some d0) (.agg c0.toArray)).put (some d1) u).eval (.tmp d0)=.agg c0.toArray)
  (e3:(((a.put (some d0) (.agg c0.toArray)).put (some d1) u).put none undef).eval (.tmp d1)=u)
  (ht:w.there b 0 c0.length) (hi:(P.info? ty).map (·.size)=some c0.length) (k:c0.toArray.all (·.oneCell')=true)
  (hfin:Q .normal ((((a.put (some d0) (.agg c0.toArray)).put (some d1) u).put none undef).put (some d3) u) (w.setCells b 0 c0)) :
  wpAnyH P md ops (NoPanic Q) (fun _=>True) 4 T a w:=by
 refine wpAnyH_take (i:=i0) (oi:=o0) (v:=.agg c0.toArray) k0 hsel f0 r0 (fun c a w h=>h) (.inl ⟨by simp [Region.wanted,g0],fun w _=>by unfold execOp;simp [h0,e0,Instr.extract]⟩) trivial ?_
 rw [n0]
 refine wpAnyH_take (i:=i1) (oi:=o1) (v:=u) k1 hsel f1 r1 (fun c a w h=>h) (.inl ⟨by simp [Region.wanted,g1],fun w _=>by unfold execOp;simp [h1,e1,Instr.extract]⟩) trivial ?_
 rw [n1]
 refine wpAnyH_ready (rs:=[i2]) r2 (by simp) (AllReadyH.cons (o:=o2) k2 (fun K hK=>?_) AllReadyH.nil)
 rw [if_pos (by simp [Region.wanted,g2])]
 refine wp_store_mid ty p (.tmp d0) h2 b 0 c0.toArray e2 e2' (by rw [List.size_toArray];exact ht) (by rw [List.size_toArray];exact hi) k ?_
 rw [n2]
 refine hK.out _ _ trivial (fun _=>?_)
 refine wpAnyH_ready (rs:=[i3]) r3 (by simp) (AllReadyH.cons (o:=o3) k3 (fun K' hK'=>?_) AllReadyH.nil)
 rw [if_pos (by simp [Region.wanted,g3])]
 unfold Oper.wp execOp
 simp [h3,e3,Oper.upon]
 rw [n3]
 refine hK'.out _ _ trivial (fun _=>?_)
 exact wpAnyH_done r4 (NoPanic.normal hfin) _
end
end Go.Proofs.YtemoddmadfoaiaaGreat
namespace Go.Proofs.YtemoddmadfoaiaaGreat
open Go.RowKit Big
end Go.Proofs.YtemoddmadfoaiaaGreat
