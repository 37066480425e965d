import Derived.Test.YtmcekgapelanhaaGreatAlE
import Derived.Laws.CopyOwn
import Derived.Lib.AppendZerosOnto
import Derived.Laws.NewBlocks
import Derived.Laws.OwnMore
import Derived.Deep.CutBlock
import Derived.Test.YtmcekgapelanhaaGreatAlD
set_option linter.unusedVariables false
set_option linter.unusedSimpArgs false
set_option maxRecDepth 100000
set_option maxHeartbeats 8000000
namespace Go.Proofs.YtmcekgapelanhaaGreat
open Go.RowKit Big Al Tok Ap
open Lib (hid)
theorem run_copy_k {P:Program} (w:World) (dT sT ty elem:TypeId) (sz g o dLen dCap:Nat) (ad:Addr) (sLen sCap:Nat) (cur:Array Value) (t:TypeId) (cs:List Value)
  (hu:P.underlying dT=some (.slice elem)) (hs:(P.info? elem).map (·.size)=some sz) (hg:w.heap[g]?=some (.cells cur t (0,0))) (hn:cs.length=Nat.min sLen dLen*sz)
  (hsrc:∀ j v,cs[j]?=some v→w.cell? (ad.add j)=some v) (hfit:o+cs.length≤cur.size) (h1:∀ v∈cs,v.oneCell'=true) :
  (Builtin.copy_ #[dT,sT] ty #[.slice (some ⟨g,o,none⟩) dLen dCap,.slice (some ad) sLen sCap]).run P w=.ok (goInt (Nat.min sLen dLen)) (w.setRow g (cur.toList.take o++(cs++cur.toList.drop (o+cs.length))).toArray):=by
 have hl:=run_loadCells_list (P:=P) w ad cs hsrc
 have hst:=run_storeCells_at P g o t cs 0 cur w hg (by simpa using hfit) h1
 cases hq:P.info? elem with
 | none=>simp [hq] at hs
 | some i =>
  have hi:i.size=sz:=by simpa [hq] using hs
  simp [Builtin.copy_,run_underlying hu,Builtin.lenOf,Builtin.firstCells,sizeOf,typeInfo,hq,hi,←hn,hl,hst]
theorem wpList_copy_k {P:Program} {w:World} {ops:Array Oper} {rest:List Oper} {o:Oper} {a:Act} {Q:Exit→Act→World→Prop} (hgd:o.guard=none) (d s:Operand) (dT sT:TypeId)
  (ho:o.op=.call { callee:=.builtin .copy,args:=#[d,s],argTypes:=#[dT,sT] }) (elem:TypeId) (hu:P.underlying dT=some (.slice elem)) (sz:Nat) (hsz:(P.info? elem).map (·.size)=some sz)
  (g off dLen dCap:Nat) (ad:Addr) (sLen sCap:Nat) (hd:a.eval d=.slice (some ⟨g,off,none⟩) dLen dCap) (hs:a.eval s=.slice (some ad) sLen sCap)
  (cur:List Value) (t:TypeId) (hg:w.heap[g]?=some (.cells cur.toArray t (0,0))) (cs:List Value) (hn:cs.length=Nat.min sLen dLen*sz)
  (hsrc:∀ j v,cs[j]?=some v→w.cell? (ad.add j)=some v) (hfit:off+cs.length≤cur.length) (h1:∀ v∈cs,v.oneCell'=true) (B:Nat) (w0:World) (hb:Below B w0 w) (hBg:B≤g)
  (h:∀ w',Hid (w'.heap[g]?=some (.cells (splice cur off cs).toArray t (0,0)))→Below B w0 w'→(∀ k,k≠g→w'.heap[k]?=w.heap[k]?)→wpList P ops Q rest (a.put o.dst (goInt (Nat.min sLen dLen))) w'):wpList P ops Q (o::rest) a w:=by
 refine wpList_plain hgd fun K hK=>?_
 have hrun:=run_copy_k (P:=P) w dT sT o.type elem sz g off dLen dCap ad sLen sCap cur.toArray t cs hu hsz hg hn hsrc (by simpa using hfit) h1
 unfold Oper.wp
 simp [execOp,ho,resolve,invoke,builtin,hd,hs,hrun,Result.andThen]
 exact hK _ _ (h _ (show _=_ by simpa [splice] using setRow_heap w g _ _ t _ hg) (below_setRow hb hBg _) (fun k hk=>setRow_other w g k _ hk))
namespace Al
def Res (t:Int) (ws:List Nat) (rs:List Int):Prop:=if sumL ws=0 then rs=ws.map (fun _=>0) else ∃ p,Parts t.natAbs ws p∧rs=if t<0 then (p.map Int.ofNat).map (- ·) else p.map Int.ofNat
theorem res_unique {t:Int} {ws:List Nat} {a b:List Int} (ha:Res t ws a) (hb:Res t ws b):a=b:=by
 unfold Res at *
 split at ha
 ·rename_i h;rw [if_pos h] at hb;rw [ha,hb]
 ·rename_i h
  rw [if_neg h] at hb
  obtain ⟨p,hp,rfl⟩:=ha
  obtain ⟨q,hq,rfl⟩:=hb
  rw [parts_unique hp hq]
theorem res_len {t:Int} {ws:List Nat} {a:List Int} (ha:Res t ws a):a.length=ws.length:=by
 unfold Res at ha
 split at ha
 ·rw [ha];simp
 ·obtain ⟨p,hp,rfl⟩:=ha
  obtain ⟨o,_,_,hl,_⟩:=hp
  split<;>simp [hl]
theorem res_bd {t:Int} {ws:List Nat} {a:List Int} (ha:Res t ws a):∀ x∈a,-(t.natAbs:Int)≤x∧x≤t.natAbs:=by
 unfold Res at ha
 split at ha
 ·rw [ha];intro x hx;obtain ⟨_,_,rfl⟩:=List.mem_map.1 hx;omega
 ·rename_i h
  obtain ⟨p,hp,rfl⟩:=ha
  have hs:=parts_sum (by omega) hp
  intro x hx
  split at hx
  ·obtain ⟨y,hy,rfl⟩:=List.mem_map.1 hx
   obtain ⟨z,hz,rfl⟩:=List.mem_map.1 hy
   have:=sumL_mem hz
   show -(t.natAbs:Int)≤-(z:Int)∧-(z:Int)≤_
   omega
  ·obtain ⟨z,hz,rfl⟩:=List.mem_map.1 hx
   have:=sumL_mem hz
   show -(t.natAbs:Int)≤(z:Int)∧(z:Int)≤_
   omega
structure Sh where
 name:ByteArray
 opening:Int
 own:Int
 result:Int
 net:Int
def Sh.cells (s:Sh):List Value:=[.string s.name,.int .i64 s.opening,.int .i64 s.own,.int .i64 s.result,.int .i64 s.net]
def shOf (b:Bk) (r:Int):Sh:=⟨b.name,b.op,b.own,r,b.op+b.own+r⟩
def shL (l:List Bk) (rs:List Int):List Sh:=List.zipWith shOf l rs
def cellsS (l:List Sh):List Value:=l.flatMap Sh.cells
theorem cellsS_len (l:List Sh):(cellsS l).length=l.length*5:=by
 induction l with
 | nil=>rfl
 | cons b l ih=>simp only [cellsS,List.flatMap_cons,List.length_append,List.length_cons,Sh.cells,List.length_nil] at ih ⊢;rw [ih];omega
theorem shL_len {l:List Bk} {rs:List Int} (h:rs.length=l.length):(shL l rs).length=l.length:=by simp [shL,h]
theorem shL_get {l:List Bk} {rs:List Int} {k:Nat} {b:Bk} {r:Int} (hb:l[k]?=some b) (hr:rs[k]?=some r):(shL l rs)[k]?=some (shOf b r):=by
 unfold shL;rw [List.getElem?_zipWith,hb,hr]
def inM (n:Int):Bool:=inR n (-1000000000000000) 1000000000000000
def comm (total:Int) (l:List Bk):Int:=total - (sumO l:Int) - ownS l
inductive AllocR (total:Int) (l:List Bk):Int × List Sh→Prop
 | tot:inM total=false→AllocR total l (42,[])
 | cap:inM total=true→sumO l=0→comm total l≠0→AllocR total l (211,[])
 | far:inM total=true→¬(sumO l=0∧comm total l≠0)→inM (comm total l)=false→AllocR total l (33,[])
 | net (rs:List Int) (s:Sh):inM total=true→¬(sumO l=0∧comm total l≠0)→inM (comm total l)=true→Res (comm total l) (l.map Bk.op) rs→s∈shL l rs→inM s.net=false→AllocR total l (33,[])
 | ok (rs:List Int):inM total=true→¬(sumO l=0∧comm total l≠0)→inM (comm total l)=true→Res (comm total l) (l.map Bk.op) rs→(∀ s∈shL l rs,inM s.net=true)→AllocR total l (0,shL l rs)
end Al
def AllocP (total:Int) (l:List Bk) (w:World) (e:Ending) (w':World):Prop :=
 ∃ vo r,AllocR total l r∧e=.returned (.tuple #[vo,.int .i64 r.1])∧Rd w' 5 vo r.2.length (cellsS r.2)∧Below w.heap.size w w'
theorem oneS (l:List Sh):∀ v∈cellsS l,v.oneCell'=true:=by
 intro v hv
 obtain ⟨s,_,hs⟩:=List.mem_flatMap.1 hv
 simp only [Sh.cells,List.mem_cons,List.not_mem_nil,or_false] at hs
 rcases hs with rfl|rfl|rfl|rfl|rfl<;>rfl
theorem Tryz.infoI1:(Tryz.prog.info? 3).map (·.size)=some 1:=by kernel_rfl
theorem oneInts (rs:List Int):∀ v∈rs.map (Value.int .i64),v.oneCell'=true:=by
 intro v hv
 obtain ⟨x,_,rfl⟩:=List.mem_map.1 hv
 rfl
theorem row_cells {w:World} {g:Nat} {rs:List Int} (h:Row w g 0 rs):∀ j v,(rs.map (Value.int .i64))[j]?=some v→w.cell? ((⟨g,0,none⟩:Addr).add j)=some v:=by
 intro j v hv
 have hadd:(⟨g,0,none⟩:Addr).add j=⟨g,0+j,none⟩:=by unfold Addr.add;split<;>simp_all
 rw [hadd]
 rw [List.getElem?_map] at hv
 cases hr:rs[j]? with
 | none=>rw [hr] at hv;cases hv
 | some x=>rw [hr] at hv;injection hv with hv;rw [←hv];exact h.1 j x hr
theorem At.keepB {w w':World} {b o:Nat} {cs:List Value} (h:At w b o cs) (hk:w'.heap[b]?=w.heap[b]?):At w' b o cs:=by
 refine ⟨fun j v hj=>?_,fun j hj=>?_,?_⟩
 ·rw [World.cell?_of_block (w:=w) hk];exact h.range j v hj
 ·rw [World.cell?_of_block (w:=w) hk,World.frozen?_of_block (w:=w) hk];exact h.there j hj
 ·have h1:=h.lt
  rcases Nat.lt_or_ge b w'.heap.size with h2|h2
  ·exact h2
  ·rw [Array.getElem?_eq_none h2,Array.getElem?_eq_getElem h1] at hk;cases hk
theorem Tryz.infoSh5:(Tryz.prog.info? 37).map (fun i=>(i.zero,i.size,i.bytes))=some (some (.agg #[.string ⟨#[]⟩,.int .i64 0,.int .i64 0,.int .i64 0,.int .i64 0]),5,48):=by kernel_rfl
theorem Tryz.sizeShare:(Tryz.prog.info? 37).map (·.size)=some 5:=by kernel_rfl
def zSh:List Value:=[.string ⟨#[]⟩,.int .i64 0,.int .i64 0,.int .i64 0,.int .i64 0]
theorem sizeSh {cs:List Value} {s:Sh} (h:cs=s.cells):(Tryz.prog.info? 37).map (·.size)=some cs.length:=by rw [h];show _=some 5;kernel_rfl
theorem oneSh {cs:List Value} {s:Sh} (h:cs=s.cells):cs.toArray.all (·.oneCell')=true:=by
 rw [h,Array.all_eq_true_iff_forall_mem]
 intro v hv
 have:=oneS [s] v (by simpa [cellsS] using hv)
 exact this
theorem built_Sh {c:List Value} {n:ByteArray} {a b d e:Int} (h:c=Sh.cells ⟨n,a,b,d,e⟩):Tryz.prog.built 37 [(0,.string n),(1,.int .i64 a),(2,.int .i64 b),(3,.int .i64 d),(4,.int .i64 e)]=some c.toArray:=by
 rw [h];kernel_rfl
theorem Tryz.laysSh:LaysAs Tryz.prog 37 zSh.toArray:=by
 intro o h b w
 unfold execOp
 simp only [h]
 rfl
theorem Tryz.alSh {cs:List Value} (h:(Tryz.prog.info? 37).map (·.size)=some cs.length):∃ z,LaysAs Tryz.prog 37 z∧cs.length≤z.size:=by
 refine ⟨_,Tryz.laysSh,?_⟩
 have e:(Tryz.prog.info? 37).map (·.size)=some 5:=by kernel_rfl
 rw [e] at h
 have:5=cs.length:=Option.some.inj h
 simp [zSh];omega
def BlkAt (w:World) (g:Nat) (cs:List Value) (t:TypeId):Prop:=w.heap[g]?=some (.cells cs.toArray t (0,0))
theorem BlkAt.at_ {w:World} {g:Nat} {cs:List Value} {t:TypeId} (h:BlkAt w g cs t):At w g 0 cs:=by
 refine ⟨fun j u hj=>?_,fun j hj=>?_,(Array.getElem?_eq_some_iff.1 h).1⟩
 ·rw [cell_of_row w g (0+j) _ _ (0,0) h];simpa using hj
 ·rw [cell_of_row w g (0+j) _ _ (0,0) h]
  exact ⟨by simp [List.getElem?_eq_getElem hj],frozen_of_row _ _ _ _ _ h⟩
theorem BlkAt.below {w w':World} {g:Nat} {cs:List Value} {t:TypeId} (h:BlkAt w g cs t) (hb:Below w.heap.size w w'):BlkAt w' g cs t:=by
 unfold BlkAt at *
 rw [hb.block g (Array.getElem?_eq_some_iff.1 h).1];exact h
theorem BlkAt.flow {pl:List Pl} {w w':World} {β:Nat→Nat} (E:FlowE pl w β w') {g:Nat} {cs:List Value} {t:TypeId} (h:BlkAt w g cs t) (hne:∀ p∈pl,p.new=false→p.b≠g):BlkAt w' g cs t:=by
 unfold BlkAt at *
 rw [E.keep g (Array.getElem?_eq_some_iff.1 h).1 hne];exact h
theorem BlkAt.other {w:World} {g:Nat} {cs:List Value} {t:TypeId} (h:BlkAt w g cs t) (p:Addr) (v:Value) (hp:p.block≠g):BlkAt (w.setCell p v) g cs t:=by
 unfold BlkAt at *
 rw [Below.heap_setCell _ _ _ _ (by exact fun e=>hp e.symm)];exact h
theorem BlkAt.set {w:World} {g:Nat} {cs:List Value} {t:TypeId} (h:BlkAt w g cs t) (i:Nat) (v:Value):BlkAt (w.setCell ⟨g,i,none⟩ v) g (cs.set i v) t:=by
 unfold BlkAt at *
 simp [World.setCell,Array.getElem?_modify,h]
theorem BlkAt.keep {w w':World} {g:Nat} {cs:List Value} {t:TypeId} (h:BlkAt w g cs t) (hk:w'.heap[g]?=w.heap[g]?):BlkAt w' g cs t:=by unfold BlkAt at *;rw [hk];exact h
theorem blk_own {w:World} {B n g:Nat} {e:TypeId} {size:Nat} {xs:List Value} (h:w.ownsRow B e size (.slice (some ⟨g,0,none⟩) n n) n xs):BlkAt w g xs e:=by
 obtain ⟨h1,h2⟩:=h
 rcases h2 with ⟨h2,_⟩|⟨g',cap',cur,hv,hbg,hg,hnc,hcm,hcs,htk⟩
 ·cases h2
 ·injection hv with e1 e2 e3
  injection e1 with e1
  injection e1 with e1
  subst e1 e3
  unfold BlkAt
  rw [hg,←htk,List.take_of_length_le (by simp;omega)]
theorem five_set (A B:List Value) (z0 z1 z2 z3 z4 v0 v1 v2 v3 v4:Value) (k:Nat) (hk:A.length=k) :
  (((((A++([z0,z1,z2,z3,z4]++B)).set k v0).set (k+1) v1).set (k+2) v2).set (k+3) v3).set (k+4) v4=A++([v0,v1,v2,v3,v4]++B):=by
 subst hk
 have key:∀ (j:Nat) (v:Value) (X:List Value),(A++X).set (A.length+j) v=A++X.set j v:=fun j v X=>by
  rw [List.set_append,if_neg (by omega)];congr 2;omega
 have k0:=key 0
 simp only [Nat.add_zero] at k0
 rw [k0,key,key,key,key];rfl
def shBlk (l:List Sh) (k:Nat):List Value:=cellsS (l.take k)++(List.replicate (4 - k) zSh).flatten
theorem shBlk_len {l:List Sh} {k:Nat} (hk:k≤4) (hl:k≤l.length):(shBlk l k).length=20:=by
 unfold shBlk
 rw [List.length_append,cellsS_len,List.length_take,Nat.min_eq_left hl]
 have:∀ n,((List.replicate n zSh).flatten).length=n*5:=fun n=>by induction n with
  | zero=>rfl
  | succ n ih=>rw [List.replicate_succ,List.flatten_cons,List.length_append,ih];simp [zSh];omega
 rw [this];omega
theorem shBlk_set {l:List Sh} {k:Nat} {s:Sh} (hk:k<4) (hs:l[k]?=some s):(((((shBlk l k).set (k*5) (.string s.name)).set (k*5+1) (.int .i64 s.opening)).set (k*5+2) (.int .i64 s.own)).set (k*5+3) (.int .i64 s.result)).set (k*5+4) (.int .i64 s.net)=shBlk l (k+1):=by
 have hl:k<l.length:=(List.getElem?_eq_some_iff.1 hs).1
 have e:(List.replicate (4 - k) zSh).flatten=[.string ⟨#[]⟩,.int .i64 0,.int .i64 0,.int .i64 0,.int .i64 0]++(List.replicate (4 - (k+1)) zSh).flatten:=by
  rw [show 4 - k=(4 - (k+1))+1 by omega,List.replicate_succ,List.flatten_cons];rfl
 unfold shBlk
 rw [e,five_set _ _ _ _ _ _ _ _ _ _ _ _ (k*5) (by rw [cellsS_len,List.length_take,Nat.min_eq_left (by omega)]),List.take_add_one,hs]
 simp [cellsS,Sh.cells]
theorem shBlk_there {w:World} {g k:Nat} {l:List Sh} {t:TypeId} (h:BlkAt w g (shBlk l k) t) (hk:k<4) (hl:k<l.length) (j:Nat) (hj:j<5):(∃ v,w.cell? ⟨g,k*5+j,none⟩=some v)∧w.frozen? ⟨g,k*5+j,none⟩=false:=by
 have h1:=h.at_.there (k*5+j) (by rw [shBlk_len (by omega) (by omega)];omega)
 rw [Nat.zero_add] at h1
 exact ⟨Option.isSome_iff_exists.1 h1.1,h1.2⟩
theorem alloc_any (total:Int) (l:List Bk) (v:Value) (w:World) (h:BksAt w v l) (hC:checkB l=true) :
  Calls Tryz.prog 7 #[.int .i64 total,v] w (AllocP total l w):=by
 have hO:=check_oks hC
 have hS:=sumO_bd hO
 have hT:=ownS_le hO
 have HCK:=hid (fun W (h:BksAt W v l)=>show Calls Tryz.prog 12 #[v] W (fun e w'=>e=.returned (.int .i64 0)∧Below W.heap.size W w') by have:=acheck_any v l W h;rw [hC] at this;exact this)
 have HSU:=hid (fun W (h:BksAt W v l)=>sums_any v l W h hO)
 have HBK:=hid h
 obtain ⟨hl1,hl4⟩:=hO.len
 obtain ⟨n,hnn⟩:∃ n,n=l.length:=⟨_,rfl⟩
 have HN:=hid hnn
 rw [←hnn] at hl1 hl4
 have HOK:=hid hO.all
 obtain ⟨A,cap,hv⟩:=Rd.form h
 rw [←hnn] at hv
 obtain ⟨B0,hB0⟩:∃ B,B=w.heap.size:=⟨_,rfl⟩
 have HB0:=hid hB0
 have HFB:=hid (show ∀ W,Fr B0 w W→BksAt W v l from fun W hF=>HBK.out.below (by have:=hF.below;rwa [HB0.out] at this))
 have FR:=hid (show Fr B0 w w by rw [hB0];exact Fr.start w)
 obtain ⟨S,hSS⟩:∃ S,S=sumO l:=⟨_,rfl⟩
 obtain ⟨T,hTT⟩:∃ T,T=ownS l:=⟨_,rfl⟩
 have HST:=hid (And.intro hSS hTT)
 rw [←hSS] at hS
 rw [←hTT] at hT
 obtain ⟨c,hc⟩:∃ c,c=comm total l:=⟨_,rfl⟩
 have HC:=hid hc
 have hc':total - (S:Int) - T=c:=by rw [hc,hSS,hTT];rfl
 clear hC h hO hnn hSS hTT hB0 hc
 subst hv
 cases hin:inM total with
 | false =>
  have HA:=hid (AllocR.tot (l:=l) hin)
  have HW:=hid (withinC total (-1000000000000000) 1000000000000000 false hin)
  clear hin hc'
  go_enter Tryz.func7,Tryz.ntmps7
  go_wp2_with (first|(go_at_call 12;refine (HCK.out _ (HFB.out _ FR.out)).mono ?_;rintro e wa ⟨rfl,hb⟩;replace FR:=hid (FR.out.step hb);clear hb)|(go_at_call 29;refine (HW.out _).mono ?_;rintro e w' ⟨rfl,rfl⟩))
  go_ret2
  exact ⟨.slice none 0 0,_,HA.out,(by rfl),rd_nil _ _,by have:=FR.out.below;rwa [HB0.out] at this⟩
 | true =>
  have hb:=inR_yes hin
  have HIN:=hid hin
  have HW:=hid (withinC total (-1000000000000000) 1000000000000000 true hin)
  have w1:IntKind.i64.wrap (total - (S:Int))=total - (S:Int):=IntWalk.i64_in _ (by omega)
  have w2:IntKind.i64.wrap (total - (S:Int) - T)=c:=by rw [IntWalk.i64_in _ (by omega)];exact hc'
  clear hin
  go_enter Tryz.func7,Tryz.ntmps7
  go_upto_region 7 with (first|(go_at_call 12;refine (HCK.out _ (HFB.out _ FR.out)).mono ?_;rintro e wa ⟨rfl,hb⟩;replace FR:=hid (FR.out.step hb);clear hb)|(go_at_call 29;refine (HW.out _).mono ?_;rintro e w' ⟨rfl,rfl⟩)|(go_at_call 30;refine (HSU.out _ (HFB.out _ FR.out)).mono ?_;rintro e wb ⟨vo,rfl,hown,hb⟩;replace FR:=hid (FR.out.step hb);clear hb;have hST:=HST.out;unfold sumO at hST;rw [←hST.1,←hST.2];clear hST;have HOW:=hid hown;clear hown))
  obtain ⟨og,ocap,rfl⟩:∃ g cap,vo=.slice (some ⟨g,0,none⟩) n cap:=by
   rcases HOW.out.2 with ⟨_,h2⟩|⟨g,cap,cur,h2,_⟩
   ·have:=HN.out;omega
   ·exact ⟨g,cap,by rw [h2,HN.out]⟩
  rw [←HN.out] at HOW
  have AOG:=hid (At.of_own HOW.out)
  have log:=AOG.out.lt
  obtain ⟨b11,hb11⟩:∃ b,b=wb.heap.size:=⟨_,rfl⟩
  obtain ⟨W9,hW9⟩:∃ W,W=wb.alloc (.cells #[.int .i64 0,.int .i64 0,.int .i64 0,.int .i64 0] 66):=⟨_,rfl⟩
  have hb9:Below wb.heap.size wb W9:=by rw [hW9];exact (Below.refl _ _).alloc (Nat.le_refl _) _
  have HR0:=hid (show BlkAt W9 b11 [.int .i64 0,.int .i64 0,.int .i64 0,.int .i64 0] 66 by rw [hW9,hb11];exact heap_alloc_new _ _)
  have hZ11:B0≤b11:=by rw [hb11];exact FR.out.le
  have lo11:og<b11:=by rw [hb11];exact log
  replace HOW:=hid (ownsRow_below HOW.out hb9)
  replace AOG:=hid (AOG.out.below hb9)
  replace FR:=hid (FR.out.step hb9)
  clear hb9
  go_upto_block 0 with fail
  rw [←hW9,←hb11]
  clear hW9 hb11 log
  by_cases hcap:S=0∧c≠0
  ·have HA:=hid (AllocR.cap (total:=total) (l:=l) HIN.out (by rw [←HST.out.1];exact hcap.1) (by rw [←HC.out];exact hcap.2))
   obtain ⟨h0,hc0⟩:=hcap
   have hcn:(c != 0)=true:=by simpa using hc0
   subst h0
   clear hc0
   go_wp2
   go_ret2
   exact ⟨.slice none 0 0,_,HA.out,(by rfl),rd_nil _ _,by have:=FR.out.below;rwa [HB0.out] at this⟩
  ·have HNC:=hid (show ¬(sumO l=0∧comm total l≠0) by rw [←HST.out.1,←HC.out];exact hcap)
   cases hcr:inM c with
   | false =>
    have hS0:((S:Int)==0)=false:=by
     rw [beq_eq_false_iff_ne]
     intro h0
     by_cases hc0:c=0
     ·rw [hc0] at hcr;exact absurd hcr (by decide)
     ·exact hcap ⟨by omega,hc0⟩
    have HA:=hid (AllocR.far (total:=total) (l:=l) HIN.out HNC.out (by rw [←HC.out];exact hcr))
    have HWC:=hid (withinC c (-1000000000000000) 1000000000000000 false hcr)
    clear hcap hcr
    go_wp2_with (go_at_call 29;refine (HWC.out _).mono ?_;rintro e w' ⟨rfl,rfl⟩)
    go_ret2
    exact ⟨.slice none 0 0,_,HA.out,(by rfl),rd_nil _ _,by have:=FR.out.below;rwa [HB0.out] at this⟩
   | true =>
    have hcb:=inR_yes hcr
    have HCR:=hid hcr
    have HWC:=hid (withinC c (-1000000000000000) 1000000000000000 true hcr)
    clear hcr
    go_cut [] from 39 to 63 (fun wx=>∃ rs:List Int,Res c (l.map Bk.op) rs∧BlkAt wx b11 (rs.map (Value.int .i64)++List.replicate (4 - n) (.int .i64 0)) 66∧At wx og 0 (cellsN (l.map Bk.op))∧Fr B0 w wx)
    case first =>
     by_cases hS0:S=0
     ·have hc0:c=0:=by
       by_cases h:c=0
       ·exact h
       ·exact absurd ⟨hS0,h⟩ hcap
      have HSZ:=hid (show sumL (l.map Bk.op)=0 by have:=HST.out.1;unfold sumO at this;omega)
      have hSb:((S:Int)==0)=true:=by rw [beq_iff_eq];omega
      have hSn:¬0<S:=by omega
      have HCZ:=hid hc0
      have hcn:(c != 0)=false:=by rw [hc0];rfl
      clear hcap hc0 hS0
      go_wp2_with (go_at_call 29;refine (HWC.out _).mono ?_;rintro e w' ⟨rfl,rfl⟩)
      go_meet
      refine ⟨(l.map Bk.op).map (fun _=>0),by unfold Res;rw [if_pos HSZ.out],?_,AOG.out,FR.out⟩
      have e:((l.map Bk.op).map (fun _=>(0:Int))).map (Value.int .i64)=List.replicate n (.int .i64 0):=by
       rw [List.map_map,List.map_map]
       apply List.ext_getElem
       ·simp [HN.out]
       ·intro i h1 h2;simp
      rw [e,List.replicate_append_replicate,show n+(4 - n)=4 by omega]
      exact HR0.out
     ·have hS0':((S:Int)==0)=false:=beq_eq_false_iff_ne.2 (by omega)
      have hS1:0<S:=by omega
      have HSP:=hid (fun W v (hV:Valid W v n (l.map Bk.op))=>split_any c n (l.map Bk.op) v W hV (by have:=HST.out.1;unfold sumO at this;omega) hcb.1 hcb.2)
      have HVA:=hid (show Valid W9 (.slice (some ⟨og,0,none⟩) n ocap) n (l.map Bk.op) from ⟨Reads.of_own HOW.out,by simp [HN.out],hl1,by omega,fun x hx=>by obtain ⟨b,hb,rfl⟩:=List.mem_map.1 hx;exact (HOK.out b hb).op_le⟩)
      have HSPOS:=hid (show sumL (l.map Bk.op)≠0 by have:=HST.out.1;unfold sumO at this;omega)
      clear hcap hS0
      go_upto_region 17 with (first|(go_at_call 29;refine (HWC.out _).mono ?_;rintro e w' ⟨rfl,rfl⟩)|(go_at_call 31;refine (HSP.out _ _ HVA.out).mono ?_;rintro e ws ⟨gp,pl,hp1,hp2,rfl,hp4,hp5,hp6⟩;have HP:=hid (And.intro hp1 (And.intro hp2 (And.intro hp4 (And.intro hp5 hp6))));clear hp1 hp2 hp4 hp5 hp6))
      obtain ⟨rs,hrs⟩:∃ rs,rs=(if c<0 then pl.map (- ·) else pl):=⟨_,rfl⟩
      have HRS:=hid (show Res c (l.map Bk.op) rs by
       unfold Res
       rw [if_neg HSPOS.out]
       obtain ⟨p,hp,hpl⟩:=HP.out.2.2.1
       exact ⟨p,hp,by rw [hrs,hpl]⟩)
      have HRW:=hid (show Row ws gp 0 rs by rw [hrs];exact HP.out.2.2.2.1)
      have HLN:=hid (show rs.length=n by rw [res_len HRS.out];simp [HN.out])
      have HR1:=hid (HR0.out.below HP.out.2.2.2.2)
      have AOG2:=hid (AOG.out.below HP.out.2.2.2.2)
      have FR2:=hid (FR.out.step HP.out.2.2.2.2)
      clear hrs HP
      have HL1:=hid (show (rs.map (Value.int .i64)).length=Nat.min n 4*1 by rw [List.length_map,HLN.out,Nat.mul_one];exact (Nat.min_eq_left hl4).symm)
      have HL2:=hid (show 0+(rs.map (Value.int .i64)).length≤[Value.int .i64 0,.int .i64 0,.int .i64 0,.int .i64 0].length by rw [List.length_map,HLN.out];simpa using hl4)
      go_wp2_with (refine wpList_copy_k rfl _ _ _ _ rfl 3 Tryz.underlying41 1 Tryz.infoI1 b11 0 4 4 ⟨gp,0,none⟩ n n rfl rfl _ 66 HR1.out (rs.map (Value.int .i64)) ?_ ?_ ?_ ?_ B0 w FR2.out.below hZ11 ?_;exact HL1.out;exact row_cells HRW.out;exact HL2.out;exact oneInts rs;intro w2 hg2 hb2 hk2;have HB2:=hid hb2;have HK2:=hid hk2;clear hb2 hk2)
      go_meet
      refine ⟨rs,HRS.out,?_,?_,⟨HB2.out,?_⟩⟩
      ·have e:splice [Value.int .i64 0,.int .i64 0,.int .i64 0,.int .i64 0] 0 (rs.map (Value.int .i64))=rs.map (Value.int .i64)++List.replicate (4 - n) (.int .i64 0):=by
        unfold splice
        rw [List.take_zero,List.nil_append,List.length_map,HLN.out,Nat.zero_add]
        congr 1
        have:n=1∨n=2∨n=3∨n=4:=by omega
        rcases this with h|h|h|h<;>subst h<;>rfl
       rw [←e];exact hg2.out
      ·exact AOG2.out.keepB (HK2.out og (by omega))
      ·exact Nat.le_trans hZ11 (Nat.le_of_lt (Array.getElem?_eq_some_iff.1 hg2.out).1)
    case rest =>
     obtain ⟨rs,hrs,h11,hog,hF⟩:=hcut
     have HRS:=hid hrs
     have HLN:=hid (show rs.length=n by rw [res_len hrs];simp [HN.out])
     have HLL:=hid (show (shL l rs).length=n by rw [shL_len (by rw [HLN.out,HN.out]),HN.out])
     have HRB:=hid (show ∀ x∈rs,-1000000000000000≤x∧x≤1000000000000000 from fun x hx=>by have:=res_bd hrs x hx;omega)
     have HR0:=hid h11
     have AOG:=hid hog
     have FR:=hid hF
     clear hrs h11 hog hF hcap
     obtain ⟨L,hL⟩:∃ L,L=shL l rs:=⟨_,rfl⟩
     rw [←hL] at HLL
     have HL:=hid hL
     clear hL
     obtain ⟨b14,hb14⟩:∃ b,b=wc.heap.size:=⟨_,rfl⟩
     obtain ⟨W14,hW14⟩:∃ W,W=wc.alloc (.cells (shBlk L 0).toArray 69):=⟨_,rfl⟩
     have hb9:Below wc.heap.size wc W14:=by rw [hW14];exact (Below.refl _ _).alloc (Nat.le_refl _) _
     have HB14:=hid (show BlkAt W14 b14 (shBlk L 0) 69 by rw [hW14,hb14];exact heap_alloc_new _ _)
     have hZ14:B0≤b14:=by rw [hb14];exact FR.out.le
     have lo14:og<b14:=by rw [hb14];exact AOG.out.lt
     have l11_14:b11<b14:=by rw [hb14];exact HR0.out.at_.lt
     replace HR0:=hid (HR0.out.below hb9)
     replace AOG:=hid (AOG.out.below hb9)
     replace FR:=hid (FR.out.step hb9)
     rw [show shBlk L 0=[.string ⟨#[]⟩,.int .i64 0,.int .i64 0,.int .i64 0,.int .i64 0,.string ⟨#[]⟩,.int .i64 0,.int .i64 0,.int .i64 0,.int .i64 0,.string ⟨#[]⟩,.int .i64 0,.int .i64 0,.int .i64 0,.int .i64 0,.string ⟨#[]⟩,.int .i64 0,.int .i64 0,.int .i64 0,.int .i64 0] from rfl] at hW14
     go_wp2
     rw [←hW14,←hb14]
     clear hb9 hW14 hb14
     go_loopg [66] n (fun m iv wr=>∃ (k:Nat),k≤n∧n - k≤m∧iv=.int .i64 (k:Int)∧BlkAt wr b14 (shBlk L k) 69∧(∀ s∈L.take k,inM s.net=true)∧BlkAt wr b11 (rs.map (Value.int .i64)++List.replicate (4 - n) (.int .i64 0)) 66∧At wr og 0 (cellsN (l.map Bk.op))∧Fr B0 w wr)
     case atStart=>exact ⟨0,by omega,by omega,rfl,HB14.out,fun s hs=>by simp at hs,HR0.out,AOG.out,FR.out⟩
     case round =>
      clear HB14 HR0 AOG FR
      obtain ⟨k,hk,hm,rfl,h14,hnets,h11,hog,hF⟩:=hrel
      have HB14:=hid h14
      have HNT:=hid hnets
      have HR0:=hid h11
      have AOG:=hid hog
      have FR:=hid hF
      have FR0:=hid hF.le
      clear h14 hnets h11 hog hF
      by_cases hlt:k<n
      ·obtain ⟨x,hx⟩:∃ x,l[k]?=some x:=⟨l[k]'(by rw [←HN.out];exact hlt),by simp [←HN.out,hlt]⟩
       obtain ⟨r,hr⟩:∃ r,rs[k]?=some r:=⟨rs[k]'(by rw [HLN.out];exact hlt),by simp [HLN.out,hlt]⟩
       have hok:=HOK.out x (List.mem_of_getElem? hx)
       have hopl:=hok.op_le
       have hxo:=hok.own
       have hrb:=HRB.out r (List.mem_of_getElem? hr)
       obtain ⟨o,ho⟩:∃ o,o=x.op:=⟨_,rfl⟩
       rw [←ho] at hopl
       obtain ⟨y,hy⟩:∃ y,y=(o:Int)+x.own:=⟨_,rfl⟩
       obtain ⟨z,hz⟩:∃ z,z=y+r:=⟨_,rfl⟩
       have wy:IntKind.i64.wrap ((o:Int)+x.own)=y:=by rw [IntWalk.i64_in _ (by omega)];exact hy.symm
       have hy':(o:Int)+x.own=y:=hy.symm
       have wz:IntKind.i64.wrap (y+r)=z:=by rw [IntWalk.i64_in _ (by omega)];exact hz.symm
       have hz':y+r=z:=hz.symm
       have hyb:-2000000000000000≤y∧y≤2000000000000000:=by omega
       have hk4:k<4:=by omega
       have HXO:=hid (show (l.map Bk.op)[k]?=some o by rw [List.getElem?_map,hx,ho];rfl)
       have HRK:=hid (show (rs.map (Value.int .i64)++List.replicate (4 - n) (.int .i64 0))[k]?=some (.int .i64 r) by
        rw [List.getElem?_append_left (by simp [HLN.out,hlt]),List.getElem?_map,hr];rfl)
       obtain ⟨sh,hsh⟩:∃ s:Sh,s=⟨x.name,o,x.own,r,z⟩:=⟨_,rfl⟩
       have HSL:=hid (show L[k]?=some sh by rw [HL.out,shL_get hx hr,hsh,hz,hy,ho];rfl)
       have HSH:=hid hsh
       have HZ:=hid hz
       obtain ⟨q0,q1,hv0,hcB⟩:∃ g off,A=some ⟨g,off,none⟩∧∀ k x,l[k]?=some x→CellsAt wr g (off+k*5) x:=by
        obtain ⟨g,off,cap2,h1,h2⟩:=bks_some (HFB.out _ FR.out) (by have:=HN.out;omega)
        refine ⟨g,off,?_,h2⟩
        injection h1
       obtain ⟨c0,c1,c2,c3,c4⟩:=hcB k x hx
       clear hcB hx hr hok ho hy hz hsh
       subst hv0
       obtain ⟨cb,V_cb⟩:∃ c:List Value,Hid (c=x.cells):=⟨_,hid rfl⟩
       obtain ⟨cs,V_cs⟩:∃ c:List Value,Hid (c=Sh.cells ⟨x.name,o,x.own,r,z⟩):=⟨_,hid rfl⟩
       go_upto_region 22 with fail
       obtain ⟨X,hX⟩:∃ X,X=wr.heap.size:=⟨_,rfl⟩
       obtain ⟨W1,hW1⟩:∃ W1,W1=wr.alloc (.cells #[.string x.name,.int .i64 x.net,.int .i64 x.flows,.int .i64 x.own,.int .i64 x.units] 47):=⟨_,rfl⟩
       have hbW:Below wr.heap.size wr W1:=by rw [hW1];exact (Below.refl _ _).alloc (Nat.le_refl _) _
       have AX:=hid (show At W1 X 0 cb by rw [hW1,hX,V_cb.out];exact At.fresh wr x.cells _ rfl)
       replace HB14:=hid (HB14.out.below hbW)
       replace HR0:=hid (HR0.out.below hbW)
       replace AOG:=hid (AOG.out.below hbW)
       replace FR:=hid (FR.out.step hbW)
       replace FR0:=hid FR.out.le
       have A11:=hid HR0.out.at_
       have A14:=hid HB14.out.at_
       rw [←hW1,←hX]
       clear hbW hW1 c0 c1 c2 c3 c4 hX
       refine wfn [⟨true,23,17,24,0,0,37,93,cs,0,cs,[]⟩] [(71,.pointer (some ⟨X,0,none⟩)),(72,.string x.name),(73,.slice (some ⟨og,0,none⟩) n ocap),(74,.int .i64 (k:Int)),(75,.pointer (some ⟨og,k,none⟩)),(76,.int .i64 (o:Int)),(77,.pointer (some ⟨X,3,none⟩)),(78,.int .i64 x.own),(79,.int .i64 (k:Int)),(80,.pointer (some ⟨b11,k,none⟩)),(81,.int .i64 r),(82,.slice (some ⟨og,0,none⟩) n ocap),(83,.int .i64 (k:Int)),(84,.pointer (some ⟨og,k,none⟩)),(85,.int .i64 (o:Int)),(86,.pointer (some ⟨X,3,none⟩)),(87,.int .i64 x.own),(88,.int .i64 y),(89,.int .i64 (k:Int)),(90,.pointer (some ⟨b11,k,none⟩)),(91,.int .i64 r),(92,.int .i64 z),(93,.agg cs.toArray)] _ (by simp only [zz4,zz5,zq];rfl) (by kernel_rfl) (by kernel_rfl) rfl ?_ ?_ ?_ ?_
       ·intro W' hW'
        have cl0:=fun d os=>cell_gw (cellN (AOG.out.below hW') HXO.out) d os
        have cl1:=fun d os=>cell_gw (cellB (k:=3) (v:=.int .i64 x.own) (AX.out.below hW') (by rw [V_cb.out];rfl)) d os
        have cl2:=fun d os=>cell_gw (cellB (k:=0) (v:=.string x.name) (AX.out.below hW') (by rw [V_cb.out];rfl)) d os
        have cl3:=fun d os=>cell_gw (cellB (A11.out.below hW') HRK.out) d os
        iterate 22 (refine fxo ?_ ?_;(go_big_quiet_step (fail);(try simp only [zq]);exact wqn rfl))
        refine fxo (wqB rfl _ _ rfl _ rfl _ (built_Sh V_cs.out) (wqn (by simp only [zq]))) ?_
        iterate 2 (refine fxs (by rfl) ?_)
        exact fxn
       ·exact oP _ _ (Tryz.alSh (sizeSh V_cs.out)) (oN)
       ·exact oP _ _ (stw rfl (sizeSh V_cs.out) (oneSh V_cs.out) (fun _=>rfl)) (oN)
       intro β wx1 E
       replace HB14:=hid (BlkAt.flow E HB14.out (oP _ _ (fun h=>Bool.noConfusion h) (oN)))
       replace HR0:=hid (BlkAt.flow E HR0.out (oP _ _ (fun h=>Bool.noConfusion h) (oN)))
       replace FR:=hid (FR.out.fnw E rfl)
       obtain ⟨b17,hb17⟩:∃ b,b=β 23:=⟨_,rfl⟩
       have eb17:=E.atNew mms rfl
       simp only at eb17
       rw [←hb17] at eb17
       have log_b17:og<b17:=by have h1:=eb17.1;have h2:=AOG.out.lt;omega
       have lX_b17:X<b17:=by have h1:=eb17.1;have h2:=AX.out.lt;omega
       have lb11_b17:b11<b17:=by have h1:=eb17.1;have h2:=A11.out.lt;omega
       have lb14_b17:b14<b17:=by have h1:=eb17.1;have h2:=A14.out.lt;omega
       have hZb17:B0≤b17:=by have h1:=eb17.1;have h2:=FR0.out;omega
       replace AOG:=hid (AOG.out.fnw E rfl)
       replace AX:=hid (AX.out.fnw E rfl)
       replace A11:=hid (A11.out.fnw E rfl)
       replace A14:=hid (A14.out.fnw E rfl)
       have Ab17:=hid eb17.2
       simp only [nP,zr,zq]
       rw [←hb17]
       replace FR0:=hid FR.out.le
       clear E eb17 hb17
       have d0:=cellB (k:=0) (v:=.string x.name) Ab17.out (by rw [V_cs.out];rfl)
       have d1:=cellB (k:=1) (v:=.int .i64 (o:Int)) Ab17.out (by rw [V_cs.out];rfl)
       have d2:=cellB (k:=2) (v:=.int .i64 x.own) Ab17.out (by rw [V_cs.out];rfl)
       have d3:=cellB (k:=3) (v:=.int .i64 r) Ab17.out (by rw [V_cs.out];rfl)
       have d4:=cellB (k:=4) (v:=.int .i64 z) Ab17.out (by rw [V_cs.out];rfl)
       cases hnet:inM z with
       | false =>
        have HA:=hid (AllocR.net (total:=total) (l:=l) rs sh HIN.out HNC.out (by rw [←HC.out];exact HCR.out) (by rw [←HC.out];exact HRS.out) (by rw [←HL.out];exact List.mem_of_getElem? HSL.out) (by rw [HSH.out];exact hnet))
        have HWN:=hid (withinC z (-1000000000000000) 1000000000000000 false hnet)
        clear hnet
        go_wp2_with (go_at_call 29;refine (HWN.out _).mono ?_;rintro e w' ⟨rfl,rfl⟩)
        go_ret2
        exact ⟨.slice none 0 0,_,HA.out,(by rfl),rd_nil _ _,by have:=FR.out.below;rwa [HB0.out] at this⟩
       | true =>
        have HWN:=hid (withinC z (-1000000000000000) 1000000000000000 true hnet)
        have HNN:=hid (show inM sh.net=true by rw [HSH.out];exact hnet)
        clear hnet
        obtain ⟨⟨v0,e0⟩,f0⟩:=shBlk_there HB14.out hk4 (by have:=HLL.out;omega) 0 (by omega)
        obtain ⟨⟨v1,e1⟩,f1⟩:=shBlk_there HB14.out hk4 (by have:=HLL.out;omega) 1 (by omega)
        obtain ⟨⟨v2,e2⟩,f2⟩:=shBlk_there HB14.out hk4 (by have:=HLL.out;omega) 2 (by omega)
        obtain ⟨⟨v3,e3⟩,f3⟩:=shBlk_there HB14.out hk4 (by have:=HLL.out;omega) 3 (by omega)
        obtain ⟨⟨v4,e4⟩,f4⟩:=shBlk_there HB14.out hk4 (by have:=HLL.out;omega) 4 (by omega)
        rw [Nat.add_zero] at e0 f0
        go_upto_region 26 with (go_at_call 29;refine (HWN.out _).mono ?_;rintro e w' ⟨rfl,rfl⟩)
        obtain ⟨Wn,hWn⟩:∃ W,W=(((((wx1.setCell ⟨b14,k*5,none⟩ (.string x.name)).setCell ⟨b14,k*5+1,none⟩ (.int .i64 (o:Int))).setCell ⟨b14,k*5+2,none⟩ (.int .i64 x.own)).setCell ⟨b14,k*5+3,none⟩ (.int .i64 r)).setCell ⟨b14,k*5+4,none⟩ (.int .i64 z)):=⟨_,rfl⟩
        have HBN:=hid (show BlkAt Wn b14 (shBlk L (k+1)) 69 by
         rw [hWn,←shBlk_set hk4 HSL.out,HSH.out]
         exact ((((HB14.out.set _ _).set _ _).set _ _).set _ _).set _ _)
        have HRN:=hid (show BlkAt Wn b11 (rs.map (Value.int .i64)++List.replicate (4 - n) (.int .i64 0)) 66 by
         rw [hWn]
         exact ((((HR0.out.other _ _ (by show b14≠b11;omega)).other _ _ (by show b14≠b11;omega)).other _ _ (by show b14≠b11;omega)).other _ _ (by show b14≠b11;omega)).other _ _ (by show b14≠b11;omega))
        have HON:=hid (show At Wn og 0 (cellsN (l.map Bk.op)) by
         rw [hWn]
         exact ((((AOG.out.putOther _ _ (by show b14≠og;omega)).putOther _ _ (by show b14≠og;omega)).putOther _ _ (by show b14≠og;omega)).putOther _ _ (by show b14≠og;omega)).putOther _ _ (by show b14≠og;omega))
        have HFN:=hid (show Fr B0 w Wn by
         rw [hWn]
         exact ((((FR.out.put _ _ hZ14).put _ _ hZ14).put _ _ hZ14).put _ _ hZ14).put _ _ hZ14)
        have HNS:=hid (show ∀ s∈L.take (k+1),inM s.net=true by
         rw [List.take_add_one,HSL.out]
         intro s hs
         rcases List.mem_append.1 hs with h|h
         ·exact HNT.out s h
         ·have:s=sh:=by simpa using h
          rw [this];exact HNN.out)
        rw [←hWn]
        clear hWn e0 e1 e2 e3 e4 f0 f1 f2 f3 f4 d0 d1 d2 d3 d4
        go_wp2
        go_roundg (gk - 1)
        case measure=>omega
        case rel=>exact ⟨k+1,by omega,by omega,by go_num,HBN.out,HNS.out,HRN.out,HON.out,HFN.out⟩
      ·obtain rfl:k=n:=by omega
       have HA:=hid (AllocR.ok (total:=total) (l:=l) rs HIN.out HNC.out (by rw [←HC.out];exact HCR.out) (by rw [←HC.out];exact HRS.out) (by rw [←HL.out];intro s hs;exact HNT.out s (by rw [List.take_of_length_le (by rw [HLL.out];exact Nat.le_refl _)];exact hs)))
       have HSC:=hid (show ∀ j v,(cellsS L)[j]?=some v→wr.cell? ((⟨b14,0,none⟩:Addr).add j)=some v by
        intro j v hj
        have hadd:(⟨b14,0,none⟩:Addr).add j=⟨b14,0+j,none⟩:=by unfold Addr.add;split<;>simp_all
        rw [hadd]
        refine HB14.out.at_.range j v ?_
        unfold shBlk
        rw [List.take_of_length_le (by rw [HLL.out];exact Nat.le_refl _),List.getElem?_append_left (List.getElem?_eq_some_iff.1 hj).1]
        exact hj)
       obtain ⟨i0,hi,hz0,hz1,hz2⟩:=info_parts Tryz.infoSh5
       have hFR:=FR.out.le
       go_upto_region 28 with (refine wpList_make_full _ rfl _ _ 29 rfl B0 37 i0 (.agg zSh.toArray) 5 Tryz.underlying29 hi hz0 hz1 _ _ _ _ k rfl rfl rfl rfl ?_ ?_ ?_ ?_;(rw [hz2];omega);exact small_maxLen (by omega);omega;intro wm hmo hmg)
       obtain ⟨bo,hbo⟩:∃ b,b=wr.heap.size:=⟨_,rfl⟩
       rw [←hbo] at hmo ⊢
       have HMB:=hid (blk_own hmo)
       have hbe:=hmo.lt bo rfl
       have HSM:=hid (show ∀ j v,(cellsS L)[j]?=some v→wm.cell? ((⟨b14,0,none⟩:Addr).add j)=some v from fun j v hj=>by
        have h1:=HSC.out j v hj
        rw [World.cell?_of_block (hmg.block _ (World.block_lt_of_cell? wr _ h1) (by simp))];exact h1)
       have HFM:=hid (show Below B0 w wm from FR.out.below.grown hmg FR.out.le (fun q h=>by cases h))
       have hBo:B0≤bo:=hbe.1
       have HCL:=hid (show (cellsS L).length=Nat.min 4 k*5 by rw [cellsS_len,HLL.out];congr 1;exact (Nat.min_eq_right hl4).symm)
       have HML:=hid (show ((madeCells (Value.agg zSh.toArray).cells (k*5)).toList).length=k*5 by have:=hmo.1;exact this)
       clear hmo hmg hi hz0 hz1 hz2 hbo
       go_wp2_with (refine wpList_copy_k rfl _ _ _ _ rfl 37 Tryz.underlying29 5 Tryz.sizeShare bo 0 k k ⟨b14,0,none⟩ 4 4 rfl rfl _ 37 HMB.out (cellsS L) ?_ ?_ ?_ ?_ B0 w HFM.out hBo ?_;exact HCL.out;exact HSM.out;(rw [HML.out,HCL.out,Nat.zero_add];exact Nat.mul_le_mul_right _ (Nat.min_le_right ..));exact oneS L;intro w2 hg2 hb2 hk2;have HG2:=hid hg2;have HB2:=hid hb2;clear hg2 hb2 hk2)
       go_ret2
       refine ⟨.slice (some ⟨bo,0,none⟩) k k,_,HA.out,(by rfl),?_,by have:=HB2.out;rwa [HB0.out] at this⟩
       rw [←HL.out]
       have hbl:BlkAt w2 bo (splice ((madeCells (Value.agg zSh.toArray).cells (k*5)).toList) 0 (cellsS L)) 37:=HG2.out.out
       have es:splice ((madeCells (Value.agg zSh.toArray).cells (k*5)).toList) 0 (cellsS L)=cellsS L:=by
        unfold splice
        rw [List.take_zero,List.nil_append,List.drop_of_length_le (by rw [HML.out,cellsS_len,HLL.out];omega),List.append_nil]
       rw [es] at hbl
       refine ⟨cellsS_len L,by rw [HLL.out];omega,_,_,by rw [HLL.out],fun _=>⟨bo,0,rfl,hbl.at_.range⟩⟩
end Go.Proofs.YtmcekgapelanhaaGreat
set_option maxHeartbeats 4000000
namespace Go.Proofs.YtmcekgapelanhaaGreat
open Go.RowKit Al Tok
open Lib (hid)
theorem range_any (bt at_:Nat) (lo hi:Int) (w:World) (ht:IsTape w bt at_) (hat:at_<1000000000000000000) (hl:-1000000000000000000≤lo) (hh:lo≤hi) (hh2:hi≤1000000000000000000) :
  Calls Tryz.prog 16 #[.pointer (some ⟨bt,0,none⟩),.int .i64 lo,.int .i64 hi] w fun e w'=>∃ r:Int,lo≤r∧r≤hi∧e=.returned (.int .i64 r)∧IsTape w' bt (at_+1)∧w.grownBy w' (some bt):=by
 have w1:IntKind.i64.wrap (hi - lo)=hi - lo:=IntWalk.i64_in _ (by omega)
 have w2:IntKind.i64.wrap (hi - lo+1)=hi - lo+1:=IntWalk.i64_in _ (by omega)
 go_enter Tryz.func16,Tryz.ntmps16
 go_wp2_with fail
 refine (next_any bt at_ (hi - lo+1) w ht hat (by omega)).mono ?_
 rintro e w1 ⟨v,rfl,ht1,hg1⟩
 have hb:=foldI_bd v (hi - lo+1) (by omega)
 generalize foldI v (hi - lo+1)=f at *
 have w3:IntKind.i64.wrap (lo+f)=lo+f:=IntWalk.i64_in _ (by omega)
 go_wp2
 go_ret
 exact ⟨lo+f,by omega,by omega,rfl,ht1,hg1⟩
theorem chance_any (bt at_:Nat) (n m:Int) (w:World) (ht:IsTape w bt at_) (hat:at_<1000000000000000000) (hm:m≤9223372036854775807) :
  Calls Tryz.prog 50 #[.pointer (some ⟨bt,0,none⟩),.int .i64 n,.int .i64 m] w fun e w'=>∃ b:Bool,e=.returned (.bool b)∧IsTape w' bt (at_+1)∧w.grownBy w' (some bt):=by
 go_enter Tryz.func50,Tryz.ntmps50
 go_wp2_with fail
 refine (next_any bt at_ m w ht hat hm).mono ?_
 rintro e w1 ⟨v,rfl,ht1,hg1⟩
 go_wp2
 all_goals go_ret
 all_goals exact ⟨_,rfl,ht1,hg1⟩
namespace Al
structure Made (b:Bk):Prop where
 net:0≤b.net∧b.net≤1000000000
 flows:-1000000000≤b.flows∧b.flows≤9000
 sum:0≤b.net+b.flows∧b.net+b.flows≤1000009000
 own:-300≤b.own∧b.own≤200
 units:0≤b.units∧b.units≤1000000
end Al
def BookP (bt at_:Nat) (name:ByteArray) (w:World) (e:Ending) (w':World):Prop :=
 ∃ b:Bk,b.name=name∧Made b∧e=.returned (.agg #[.string b.name,.int .i64 b.net,.int .i64 b.flows,.int .i64 b.own,.int .i64 b.units])∧IsTape w' bt (at_+7)∧w.grownBy w' (some bt)
theorem book_any (bt at_:Nat) (name:ByteArray) (w:World) (ht:IsTape w bt at_) (hat:at_<100000000000000000) :
  Calls Tryz.prog 48 #[.pointer (some ⟨bt,0,none⟩),.string name] w (BookP bt at_ name w):=by
 have hbt:=ht.lt
 obtain ⟨B,hB⟩:∃ B,B=w.heap.size:=⟨_,rfl⟩
 have HB:=hid hB
 go_enter Tryz.func48,Tryz.ntmps48
 go_wp2_with fail
 have hG0:w.grownBy (w.alloc (.cells #[.string ⟨#[]⟩,.int .i64 0,.int .i64 0,.int .i64 0,.int .i64 0] 47)) (some bt):=World.grownBy_alloc w _ _
 obtain ⟨W0,hW0⟩:∃ W,W=w.alloc (.cells #[.string ⟨#[]⟩,.int .i64 0,.int .i64 0,.int .i64 0,.int .i64 0] 47):=⟨_,rfl⟩
 have z0:W0.cell? ⟨B,0,none⟩=some (.string ⟨#[]⟩):=by rw [hW0,hB];go_cell
 have z1:W0.cell? ⟨B,1,none⟩=some (.int .i64 0):=by rw [hW0,hB];go_cell
 have z2:W0.cell? ⟨B,2,none⟩=some (.int .i64 0):=by rw [hW0,hB];go_cell
 have z3:W0.cell? ⟨B,3,none⟩=some (.int .i64 0):=by rw [hW0,hB];go_cell
 have z4:W0.cell? ⟨B,4,none⟩=some (.int .i64 0):=by rw [hW0,hB];go_cell
 have y:∀ o,W0.frozen? ⟨B,o,none⟩=false:=fun o=>by rw [hW0,hB];simp
 have ht0:IsTape W0 bt at_:=by rw [hW0];exact ht.alloc _
 have hBW:B<W0.heap.size:=by rw [hW0,hB];simp
 have HS:=hid (show W0.heap.size=B+1 by rw [hW0,hB];simp)
 rw [←hW0,←hB]
 rw [←hW0] at hG0
 rw [←hB] at hbt
 clear hW0 hB ht
 have HZ:=hid (And.intro z0 (And.intro z1 (And.intro z2 (And.intro z3 (And.intro z4 y)))))
 clear z0 z1 z2 z3 z4 y
 refine (pick_any bt at_ (B+1) _ 4 [2,100,1000000,1000000000] _ rfl (ht0.alloc _) (by omega) (by omega) (by omega) (by omega) (by intro j u hu;have:=ints_new W0 [2,100,1000000,1000000000] 3 j u hu;rw [HS.out] at this;exact this)).mono ?_
 rintro e w1 ⟨x1,hx1,rfl,ht1,hg1⟩
 have hb1:2≤x1∧x1≤1000000000:=by simp at hx1;omega
 have hG1:=gBt (World.grownBy_alloc W0 _ _) hg1
 clear hx1 hg1 ht0
 go_wp2_with fail
 refine (next_any bt _ x1 _ ht1 (by omega) (by omega)).mono ?_
 rintro e w2 ⟨u2,rfl,ht2,hg2⟩
 have hb2:=foldI_bd u2 x1 (by omega)
 generalize foldI u2 x1=net at *
 have hG2:=gBt hG1 hg2
 clear hg2 ht1 hG1
 go_wp2_with fail
 refine (range_any bt _ (-300) 200 _ ht2 (by omega) (by omega) (by omega) (by omega)).mono ?_
 rintro e w3 ⟨own,ho1,ho2,rfl,ht3,hg3⟩
 have hG3:=gBt hG2 hg3
 have g3:=hG3.size
 clear hg3 ht2 hG2
 go_wp2_with fail
 refine (pick_any bt _ w3.heap.size _ 3 [2,100,1000000] _ rfl (ht3.alloc _) (by omega) (by omega) (by omega) (by omega) (ints_new _ [2,100,1000000] _)).mono ?_
 rintro e w4 ⟨x4,hx4,rfl,ht4,hg4⟩
 have hb4:2≤x4∧x4≤1000000:=by simp at hx4;omega
 have hG4:=gBt hG3 (gBt (World.grownBy_alloc w3 _ _) hg4)
 clear hx4 hg4 ht3 hG3
 go_wp2_with fail
 refine (next_any bt _ x4 _ ht4 (by omega) (by omega)).mono ?_
 rintro e w5 ⟨u5,rfl,ht5,hg5⟩
 have hb5:=foldI_bd u5 x4 (by omega)
 generalize foldI u5 x4=units at *
 have hG5:=gBt hG4 hg5
 clear hg5 ht4 hG4
 go_upto_region 2 with fail
 obtain ⟨X,hX⟩:∃ X,X=w5.heap.size:=⟨_,rfl⟩
 obtain ⟨W5,hW5⟩:∃ W,W=w5.alloc (.cells #[.string name,.int .i64 net,.int .i64 0,.int .i64 own,.int .i64 units] 47):=⟨_,rfl⟩
 have x0:W5.cell? ⟨X,0,none⟩=some (.string name):=by rw [hW5,hX];go_cell
 have x1':W5.cell? ⟨X,1,none⟩=some (.int .i64 net):=by rw [hW5,hX];go_cell
 have x2:W5.cell? ⟨X,2,none⟩=some (.int .i64 0):=by rw [hW5,hX];go_cell
 have x3:W5.cell? ⟨X,3,none⟩=some (.int .i64 own):=by rw [hW5,hX];go_cell
 have x4':W5.cell? ⟨X,4,none⟩=some (.int .i64 units):=by rw [hW5,hX];go_cell
 have xf:∀ o,W5.frozen? ⟨X,o,none⟩=false:=fun o=>by rw [hW5,hX];simp
 have hXW:X<W5.heap.size:=by rw [hW5,hX];simp
 have hBX:B<X:=by rw [hX];have:=hG5.size;omega
 have hWX:W0.heap.size≤X:=by rw [hX];exact hG5.size
 have ht6:IsTape W5 bt (at_+1+1+1+1+1):=by rw [hW5];exact ht5.alloc _
 have hG6:W0.grownBy W5 (some bt):=by rw [hW5];exact gBt hG5 (World.grownBy_alloc w5 _ _)
 rw [←hW5,←hX]
 clear hW5 hX ht5 hG5
 obtain ⟨m,hm⟩:∃ m,m=min net 5000:=⟨_,rfl⟩
 have hmb:0≤m∧m≤5000∧m≤net:=by omega
 have hm':min net 5000=m:=hm.symm
 clear hm
 go_wp2_with fail
 refine (range_any bt _ (-m) 9000 _ ht6 (by omega) (by omega) (by omega) (by omega)).mono ?_
 rintro e w7 ⟨fl,hf1,hf2,rfl,ht7,hg7⟩
 have y0:=hg7.cell x0 (by simp;omega)
 have y1:=hg7.cell x1' (by simp;omega)
 have y2:=hg7.cell x2 (by simp;omega)
 have y3:=hg7.cell x3 (by simp;omega)
 have y4:=hg7.cell x4' (by simp;omega)
 have yf:∀ o,w7.frozen? ⟨X,o,none⟩=false:=fun o=>by rw [World.frozen?_of_block (w:=W5) (hg7.block X hXW (by simp;omega))];exact xf o
 have hG7:=gBt hG6 hg7
 have hX7:X<w7.heap.size:=Nat.lt_of_lt_of_le hXW hg7.size
 clear x0 x1' x2 x3 x4' xf hg7 ht6 hG6 hXW
 go_wp2_with fail
 have hts:IsTape (w7.setCell ⟨X,2,none⟩ (.int .i64 fl)) bt (at_+1+1+1+1+1+1):=ht7.grown (row:=some X) (grownBy_setCell ⟨X,2,none⟩ rfl _) (fun k hk=>by injection hk with hk;omega)
 refine (chance_any bt _ 1 6 _ hts (by omega) (by omega)).mono ?_
 rintro e w8 ⟨ch,rfl,ht8,hg8⟩
 have u0:=hg8.cell (show (w7.setCell ⟨X,2,none⟩ (.int .i64 fl)).cell? ⟨X,0,none⟩=some (.string name) by rw [World.cell?_setCell_other _ _ _ _ (by simp)];exact y0) (by simp;omega)
 have u1:=hg8.cell (show (w7.setCell ⟨X,2,none⟩ (.int .i64 fl)).cell? ⟨X,1,none⟩=some (.int .i64 net) by rw [World.cell?_setCell_other _ _ _ _ (by simp)];exact y1) (by simp;omega)
 have u2:=hg8.cell (show (w7.setCell ⟨X,2,none⟩ (.int .i64 fl)).cell? ⟨X,2,none⟩=some (.int .i64 fl) from World.cell?_setCell_same _ _ _ y2) (by simp;omega)
 have u3:=hg8.cell (show (w7.setCell ⟨X,2,none⟩ (.int .i64 fl)).cell? ⟨X,3,none⟩=some (.int .i64 own) by rw [World.cell?_setCell_other _ _ _ _ (by simp)];exact y3) (by simp;omega)
 have u4:=hg8.cell (show (w7.setCell ⟨X,2,none⟩ (.int .i64 fl)).cell? ⟨X,4,none⟩=some (.int .i64 units) by rw [World.cell?_setCell_other _ _ _ _ (by simp)];exact y4) (by simp;omega)
 have uf:∀ o,w8.frozen? ⟨X,o,none⟩=false:=fun o=>by rw [World.frozen?_of_block (w:=w7.setCell ⟨X,2,none⟩ (.int .i64 fl)) (hg8.block X (by simpa using hX7) (by simp;omega)),World.frozen?_setCell];exact yf o
 have hkeep:∀ k,k<W0.heap.size→k≠bt→w8.heap[k]?=W0.heap[k]?:=fun k hk hne=>by
  rw [hg8.block k (by have:=hG7.size;simp;omega) (by simp;omega),Below.heap_setCell _ _ _ _ (by show k≠X;omega)]
  exact hG7.block k hk (by simp;omega)
 have b0:w8.cell? ⟨B,0,none⟩=some (.string ⟨#[]⟩):=by rw [World.cell?_of_block (w:=W0) (hkeep B hBW (by omega))];exact HZ.out.1
 have b1:w8.cell? ⟨B,1,none⟩=some (.int .i64 0):=by rw [World.cell?_of_block (w:=W0) (hkeep B hBW (by omega))];exact HZ.out.2.1
 have b2:w8.cell? ⟨B,2,none⟩=some (.int .i64 0):=by rw [World.cell?_of_block (w:=W0) (hkeep B hBW (by omega))];exact HZ.out.2.2.1
 have b3:w8.cell? ⟨B,3,none⟩=some (.int .i64 0):=by rw [World.cell?_of_block (w:=W0) (hkeep B hBW (by omega))];exact HZ.out.2.2.2.1
 have b4:w8.cell? ⟨B,4,none⟩=some (.int .i64 0):=by rw [World.cell?_of_block (w:=W0) (hkeep B hBW (by omega))];exact HZ.out.2.2.2.2.1
 have bf:∀ o,w8.frozen? ⟨B,o,none⟩=false:=fun o=>by rw [World.frozen?_of_block (w:=W0) (hkeep B hBW (by omega))];exact HZ.out.2.2.2.2.2 o
 have hG8:w.grownBy w8 (some bt):=⟨hg8.os.trans (hG7.os.trans hG0.os),hg8.tape.trans (hG7.tape.trans hG0.tape),hg8.output.trans (hG7.output.trans hG0.output),by have:=hg8.size;have:=hG7.size;have:=hG0.size;simp at *;omega,fun k hk hne=>by
  have h0:=hG0.size
  rw [hkeep k (by omega) (by intro e;exact hne (by rw [e]))]
  exact hG0.block k hk hne⟩
 have HG:=hid hG8
 have HT8:=hid ht8
 have hB8:B≠bt:=by omega
 have hX8:X≠bt:=by omega
 have HBw:=hid (show w.heap.size≤B by rw [HB.out];exact Nat.le_refl _)
 clear y0 y1 y2 y3 y4 yf hkeep hg8 hG7 hG0 ht7 hts hG8 ht8 hX7 hBW HZ HS
 have fin:∀ (fl:Int) (W:World),w8.grownBy W (some X)→-1000000000≤fl→fl≤9000→0≤net+fl→BookP bt at_ name w (.returned (.agg #[.string name,.int .i64 net,.int .i64 fl,.int .i64 own,.int .i64 units])) (((((W.setCell ⟨B,0,none⟩ (.string name)).setCell ⟨B,1,none⟩ (.int .i64 net)).setCell ⟨B,2,none⟩ (.int .i64 fl)).setCell ⟨B,3,none⟩ (.int .i64 own)).setCell ⟨B,4,none⟩ (.int .i64 units)):=by
  intro fl W hW hfa hfb hfc
  refine ⟨⟨name,net,fl,own,units⟩,rfl,⟨by show 0≤net∧net≤_;omega,⟨hfa,hfb⟩,by show 0≤net+fl∧net+fl≤_;omega,⟨ho1,ho2⟩,by show 0≤units∧units≤_;omega⟩,rfl,?_,?_⟩
  ·have h1:=HT8.out.grown hW (fun k hk=>by injection hk with hk;omega)
   have st:∀ (W:World) (o:Nat) (v:Value),IsTape W bt (at_+7)→IsTape (W.setCell ⟨B,o,none⟩ v) bt (at_+7):=fun W o v h=>h.grown (row:=some B) (grownBy_setCell ⟨B,o,none⟩ rfl _) (fun k hk=>by injection hk with hk;omega)
   exact st _ _ _ (st _ _ _ (st _ _ _ (st _ _ _ (st _ _ _ h1))))
  ·have g1:=HG.out
   refine ⟨hW.os.trans g1.os,hW.tape.trans g1.tape,hW.output.trans g1.output,by have:=hW.size;have:=g1.size;simp;omega,fun k hk hne=>?_⟩
   have hkB:k≠B:=by have:=HBw.out;omega
   rw [Below.heap_setCell _ _ _ _ hkB,Below.heap_setCell _ _ _ _ hkB,Below.heap_setCell _ _ _ _ hkB,Below.heap_setCell _ _ _ _ hkB,Below.heap_setCell _ _ _ _ hkB]
   rw [hW.block k (by have:=g1.size;omega) (by have:=HBw.out;simp;omega)]
   exact g1.block k hk hne
 have HFIN:=hid fin
 clear fin
 cases ch with
 | true =>
  have e1:IntKind.i64.wrap (-net)=-net:=IntWalk.i64_in _ (by omega)
  have hfin:=HFIN.out (-net) (w8.setCell ⟨X,2,none⟩ (.int .i64 (-net))) (grownBy_setCell ⟨X,2,none⟩ rfl _) (by omega) (by omega) (by omega)
  have HF:=hid hfin
  clear hfin HFIN
  go_wp2
  refine bodyPost_ret (v:=.agg #[.string name,.int .i64 net,.int .i64 (-net),.int .i64 own,.int .i64 units]) (by simp [results,Tryz.results48,go_sem,b0,b1,b2,b3,b4]) rfl ?_
  exact HF.out
 | false =>
  have hfin:=HFIN.out fl w8 (grownBy_refl _ _) (by omega) (by omega) (by omega)
  have HF:=hid hfin
  clear hfin HFIN
  go_wp2
  refine bodyPost_ret (v:=.agg #[.string name,.int .i64 net,.int .i64 fl,.int .i64 own,.int .i64 units]) (by simp [results,Tryz.results48,go_sem,b0,b1,b2,b3,b4]) rfl ?_
  exact HF.out
end Go.Proofs.YtmcekgapelanhaaGreat
set_option maxHeartbeats 4000000
namespace Go.Proofs.YtmcekgapelanhaaGreat
open Go.RowKit Al Tok
open Lib (hid)
namespace Al
def nmAt:Nat→ByteArray
 | 0=>⟨#[97]⟩
 | 1=>⟨#[98]⟩
 | 2=>⟨#[99]⟩
 | _=>⟨#[100]⟩
theorem nmAt_name (k:Nat):nameB (nmAt k)=true:=by
 unfold nmAt;split<;>rfl
theorem nmAt_ne {j k:Nat} (h:j<k) (hk:k<4):nmAt j≠nmAt k:=by
 have h1:(j=0∧k=1)∨(j=0∧k=2)∨(j=0∧k=3)∨(j=1∧k=2)∨(j=1∧k=3)∨(j=2∧k=3):=by omega
 rcases h1 with ⟨rfl,rfl⟩|⟨rfl,rfl⟩|⟨rfl,rfl⟩|⟨rfl,rfl⟩|⟨rfl,rfl⟩|⟨rfl,rfl⟩<;>decide
structure Drawn (l:List Bk):Prop where
 len:1≤l.length∧l.length≤4
 all:∀ b∈l,Made b
 names:∀ k b,l[k]?=some b→b.name=nmAt k
theorem Made.ok {b:Bk} (h:Made b) (hn:nameB b.name=true):Ok b:=by
 have h1:=h.net;have h2:=h.flows;have h3:=h.sum;have h4:=h.own;have h5:=h.units
 exact ⟨hn,by omega,by omega,by omega,by omega,by omega⟩
theorem check_of {l:List Bk} (h1:1≤l.length) (h2:l.length≤4) (ha:∀ b∈l,Ok b) (hn:∀ k b,l[k]?=some b→b.name=nmAt k):checkB l=true:=by
 unfold checkB
 rw [Bool.and_eq_true]
 refine ⟨inR_of (by omega) (by omega),okL_yes fun k hk=>?_⟩
 unfold okAt
 have hx:l[k]?=some l[k]:=List.getElem?_eq_getElem hk
 rw [hx]
 show (okB l[k]&&_)=true
 rw [Bool.and_eq_true]
 refine ⟨(okB_iff _).2 (ha _ (List.getElem_mem hk)),?_⟩
 rw [Bool.not_eq_true',List.any_eq_false]
 intro c hc
 obtain ⟨j,hj⟩:=List.mem_iff_getElem?.1 hc
 have hjk:j<k:=by have:=(List.getElem?_eq_some_iff.1 hj).1;simp at this;omega
 rw [List.getElem?_take_of_lt hjk] at hj
 rw [hn j c hj,hn k _ hx]
 simp [nmAt_ne hjk (by omega)]
end Al
theorem Tryz.infoB5:(Tryz.prog.info? 47).map (fun i=>(i.zero,i.size,i.bytes))=some (some (.agg #[.string ⟨#[]⟩,.int .i64 0,.int .i64 0,.int .i64 0,.int .i64 0]),5,48):=by kernel_rfl
def BooksP (bt at_:Nat) (w:World) (e:Ending) (w':World):Prop :=
 ∃ (v:Value) (l:List Bk) (at':Nat),e=.returned v∧Drawn l∧w'.ownsRow w.heap.size 47 5 v l.length (cellsB l)∧IsTape w' bt at'∧at'≤at_+100∧w.grownBy w' (some bt)
theorem own_keptB {w w':World} {b bt n:Nat} {s:Nat} {v:Value} {xs:List Value} {t:TypeId} (h:w.ownsRow b t s v n xs) (hg:w.grownBy w' (some bt)) (hb:bt<b):w'.ownsRow b t s v n xs :=
 h.kept hg (.inr (fun e=>by have:=(h.lt bt e).1;omega))
theorem own_lower {w:World} {b b' n s:Nat} {v:Value} {xs:List Value} {t:TypeId} (h:w.ownsRow b t s v n xs) (hb:b'≤b):w.ownsRow b' t s v n xs:=by
 obtain ⟨h1,h2⟩:=h
 refine ⟨h1,?_⟩
 rcases h2 with h2|⟨g,cap,cur,hv,hg,hr⟩
 ·exact .inl h2
 ·exact .inr ⟨g,cap,cur,hv,by omega,hr⟩
theorem books_any (bt at_:Nat) (w:World) (ht:IsTape w bt at_) (hat:at_<10000000000000000) :
  Calls Tryz.prog 14 #[.pointer (some ⟨bt,0,none⟩)] w (BooksP bt at_ w):=by
 have hlt:=ht.lt
 go_enter Tryz.func14,Tryz.ntmps14
 go_upto_region 3 with fail
 obtain ⟨B,hB⟩:∃ B,B=w.heap.size:=⟨_,rfl⟩
 obtain ⟨W0,hW0⟩:∃ W,W=w.alloc (.cells #[.string ⟨#[97]⟩,.string ⟨#[98]⟩,.string ⟨#[99]⟩,.string ⟨#[100]⟩] 9):=⟨_,rfl⟩
 have hG0:w.grownBy W0 (some bt):=by rw [hW0];exact World.grownBy_alloc w _ _
 have hBW:W0.heap.size=B+1:=by rw [hW0,hB];simp
 have hc0:∀ k,k<4→W0.cell? ⟨B,k,none⟩=some (.string (nmAt k)):=by
  intro k hk
  have h1:k=0∨k=1∨k=2∨k=3:=by omega
  rw [hW0,hB]
  rcases h1 with rfl|rfl|rfl|rfl
  ·show _=some (Value.string ⟨#[97]⟩);go_cell
  ·show _=some (Value.string ⟨#[98]⟩);go_cell
  ·show _=some (Value.string ⟨#[99]⟩);go_cell
  ·show _=some (Value.string ⟨#[100]⟩);go_cell
 have ht0:IsTape W0 bt at_:=by rw [hW0];exact ht.alloc _
 have HBW:=hid hBW
 rw [←hW0,←hB]
 rw [←hB] at hlt
 have HGW:=hid hG0
 have HBz:=hid hB
 have HC0:=hid hc0
 have hB0:B<W0.heap.size:=by omega
 clear hW0 hB ht hG0 hBW hc0
 go_wp2
 go_loopg [3,5] 5 (fun m v iv wr=>∃ (k at':Nat) (l:List Bk),iv=.int .i64 k∧k≤4∧5≤m+k∧at'≤at_+9*k∧l.length=k∧(∀ b∈l,Made b)∧(∀ j b,l[j]?=some b→b.name=nmAt j)∧wr.ownsRow (B+1) 47 5 v k (cellsB l)∧IsTape wr bt at'∧W0.grownBy wr (some bt))
 case atStart=>exact ⟨0,at_,[],rfl,by omega,by omega,by omega,rfl,by simp,by simp,World.ownsRow_nil _ _ _ _,ht0,grownBy_refl _ _⟩
 case round =>
  obtain ⟨k,at',l,rfl,hk,hm,hat',hlen,hall,hnm,hown,ht',hg⟩:=hrel
  have hgs:=hg.size
  have HL:=hid hlen
  have HA:=hid hall
  have HNM:=hid hnm
  have HO:=hid hown
  clear hlen hall hnm hown ht0
  go_wp2_with fail
  refine (next_any bt at' 4 _ ht' (by omega) (by omega)).mono ?_
  rintro e w2 ⟨u1,rfl,ht2,hg2⟩
  have hb1:=foldI_bd u1 4 (by omega)
  generalize foldI u1 4=f1 at *
  have hG2:=gBt hg hg2
  have HO2:=hid (own_keptB HO.out hg2 (by omega))
  have g2:=hG2.size
  clear hg2 HO ht' hg
  have wf:IntKind.i64.wrap (1+f1)=1+f1:=IntWalk.i64_in _ (by omega)
  by_cases hx:(k:Int)<1+f1
  ·have hk3:k<4:=by omega
   have hck:w2.cell? ⟨B,k,none⟩=some (.string (nmAt k)):=hG2.cell (HC0.out k hk3) (by simp;omega)
   go_upto_region 6 with fail
   go_wp2_with fail
   refine (book_any bt (at'+1) (nmAt k) _ ht2 (by omega)).mono ?_
   rintro e w3 ⟨b,hbn,hmade,rfl,ht3,hg3⟩
   have HM:=hid hmade
   have HBN:=hid hbn
   have hG3:=gBt hG2 hg3
   have HO3:=hid (own_keptB HO2.out hg3 (by omega))
   have g3:=hG3.size
   clear hg3 HO2 ht2 hG2 hmade hbn
   obtain ⟨i0,hi,hz0,hz1,hz2⟩:=info_parts Tryz.infoB5
   go_wp2_with (first|(refine wpList_buildRow1 rfl (s:=5) b.cells rfl (by simp [Act.eval,Act.put,Bk.cells]) (by decide) rfl (by decide) Tryz.underlying28 (by kernel_rfl) (by kernel_rfl) ?_)|(at_builtin;refine wpList_append_own _ rfl _ _ 28 rfl (B+1) 47 i0 _ 5 48 Tryz.underlying28 hi hz0 hz1 hz2 rfl (by decide) _ _ _ rfl (World.ownsRow.alloc HO3.out _) ⟨w3.heap.size,0,none⟩ 1 1 b.cells rfl rfl ?_ ?_ ?_ ?_ ?_ ?_;exact cells_new _ _ _;(simp [Value.oneCell',Bk.cells]);exact small_maxLen (by omega);omega;(simp;omega);intro v' w6 hown' hgrow _))
   have HW:=hid (show w6.ownsRow (B+1) 47 5 v' (k+1) (cellsB (l++[b])) by rw [show cellsB (l++[b])=cellsB l++b.cells by simp [cellsB]];exact hown')
   have hT6:IsTape w6 bt (at'+1+7):=(ht3.below ((Below.refl _ _).alloc (Nat.le_refl _) _)).grown hgrow (fun q hq=>by have:=(HO3.out.lt q hq).1;omega)
   have hG6:W0.grownBy w6 (some bt):=⟨hgrow.os.trans hG3.os,hgrow.tape.trans hG3.tape,hgrow.output.trans hG3.output,by have:=hgrow.size;simp at this;omega,fun q hq hr=>by
    rw [hgrow.block q (by simp;omega) (fun e=>by have:=(HO3.out.lt q e.symm).1;have:=HBW.out;omega),Below.heap_alloc _ _ _ (by omega)]
    exact hG3.block q hq hr⟩
   clear hown' hgrow ht3 hG3 HO3
   go_roundg (gk - 1)
   case measure=>omega
   case rel=>exact ⟨k+1,_,l++[b],by go_num,by omega,by omega,by omega,by simp [HL.out],by
    intro y hy
    rcases List.mem_append.1 hy with hy|hy
    ·exact HA.out y hy
    ·rw [List.mem_singleton.1 hy];exact HM.out,by
    intro j y hy
    by_cases hj:j<k
    ·rw [List.getElem?_append_left (by rw [HL.out];exact hj)] at hy
     exact HNM.out j y hy
    ·have h1:=(List.getElem?_eq_some_iff.1 hy).1
     rw [List.length_append,HL.out] at h1
     simp at h1
     have h2:j=k:=by omega
     rw [h2,List.getElem?_append_right (by rw [HL.out];exact Nat.le_refl _),HL.out,Nat.sub_self] at hy
     rw [h2,←HBN.out]
     simp at hy
     rw [hy],HW.out,hT6,hG6⟩
  ·go_wp2
   go_ret
   have hk1:1≤k:=by omega
   exact ⟨_,l,_,rfl,⟨by rw [HL.out];omega,HA.out,HNM.out⟩,by rw [HL.out];exact own_lower HO2.out (by rw [HBz.out];omega),ht2,by omega,gBt HGW.out hG2⟩
end Go.Proofs.YtmcekgapelanhaaGreat
