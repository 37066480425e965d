import Derived.Test.YtnkmhbiklffjlaaMrW
import Derived.Deep.OwnRows
import Derived.Deep.CutRange
import Derived.Lib.Slices
set_option linter.unusedVariables false
set_option linter.unusedSimpArgs false
set_option maxRecDepth 100000
set_option maxHeartbeats 4000000
namespace Go.Proofs.Ytnkmhbiklffjlaa
open Go.RowKit Ap
open Lib (hid)
theorem Try.info3:(Try.prog.info? 3).map (fun i=>(i.zero,i.size,i.bytes))=some (some (.int .i64 0),1,8):=by kernel_rfl
theorem row_made (w:World) (n b:Nat) (t:TypeId) (hb:b=w.heap.size):Row (w.alloc (.cells (madeCells #[.int .i64 0] n) t)) b 0 (List.replicate n 0):=by
  subst hb
  refine ⟨fun k x hk=>?_,fun o=>by simp⟩
  have hkn:k<n:=by
    have:=(List.getElem?_eq_some_iff.1 hk).1
    simpa using this
  have hx:x=0:=by
    rw [List.getElem?_replicate] at hk
    rw [if_pos hkn] at hk
    exact (Option.some.inj hk).symm
  subst hx
  exact (World.rowIs_made w (.int .i64 0) n t).cell (by omega)
theorem Row.alloc {w:World} {d off:Nat} {l:List Int} (h:Row w d off l) (o:Obj) (hd:d<w.heap.size):Row (w.alloc o) d off l:=h.grown (World.grownBy_alloc w o none) (by simp) hd
theorem Row.setOther {w:World} {d off:Nat} {l:List Int} (h:Row w d off l) (p:Addr) (v:Value) (hp:p.block≠d):Row (w.setCell p v) d off l :=
  ⟨fun k x hk=>by rw [World.cell?_setCell_other _ _ _ _ (fun e=>hp (by first|(rw [e])|(rw [←e])))];exact h.1 k x hk,fun o=>by rw [World.frozen?_setCell];exact h.2 o⟩
theorem Row.drew {w:World} {d off:Nat} {l:List Int} (h:Row w d off l):Row w.drew d off l:=h
theorem below_drew {B:Nat} {w w':World} (h:Below B w w'):Below B w w'.drew:=⟨h.os,h.tape,h.output,h.size,h.block⟩
def Laid3 (w wx:World) (n b7 b8 b9 bR:Nat) (l7 lR l9:List Int):Prop :=
  Row wx b7 0 l7∧Row wx bR 0 lR∧Row wx b9 0 l9∧wx.cell? ⟨b8,0,none⟩=some (.slice (some ⟨bR,0,none⟩) n n)∧b7≠b8∧b7≠b9∧b7≠bR∧b8≠b9∧b8≠bR∧b9≠bR ∧
  w.heap.size≤b7∧w.heap.size≤b8∧w.heap.size≤b9∧w.heap.size≤bR∧b7<wx.heap.size∧b8<wx.heap.size∧b9<wx.heap.size∧bR<wx.heap.size∧Below w.heap.size w wx
def fillL (n:Nat) (f:Nat→Nat) (k:Nat):List Int:=(List.range n).map fun i=>if i<k then (f i:Int) else 0
theorem fillL_zero (n:Nat) (f:Nat→Nat):fillL n f 0=List.replicate n 0:=by
  unfold fillL
  apply List.ext_getElem
  · simp
  · intro i h1 h2;simp
theorem fillL_full (n:Nat) (f:Nat→Nat):fillL n f n=((List.range n).map f).map Int.ofNat:=by
  unfold fillL
  rw [List.map_map]
  apply List.map_congr_left
  intro i hi
  have:i<n:=by simpa using hi
  simp [this]
theorem fillL_set (n:Nat) (f:Nat→Nat) (k:Nat):(fillL n f k).set k (f k:Int)=fillL n f (k+1):=by
  apply List.ext_getElem
  · simp [fillL]
  · intro i h1 h2
    rw [List.getElem_set]
    simp only [fillL,List.getElem_map,List.getElem_range]
    by_cases e:k=i
    · subst e;simp
    · rw [if_neg e]
      have:(i<k+1)↔(i<k):=by omega
      simp only [this]
theorem fillL_get (n:Nat) (f:Nat→Nat) (k i:Nat) (h:i<n):(fillL n f k)[i]?=some (if i<k then (f i:Int) else 0):=by
  simp [fillL,h]
theorem Row.set0 {w:World} {d:Nat} {l:List Int} (h:Row w d 0 l) (k:Nat) (x:Int):Row (w.setCell ⟨d,k,none⟩ (.int .i64 x)) d 0 (l.set k x):=by
  have:=h.set k x
  rwa [Nat.zero_add] at this
theorem below_set {B:Nat} {w w':World} (h:Below B w w') (p:Addr) (v:Value) (hp:B≤p.block):Below B w (w'.setCell p v) :=
  ⟨h.os,h.tape,h.output,by have:=h.size;simpa using this,fun k hk=>by rw [Below.heap_setCell _ _ _ _ (by omega)];exact h.block k hk⟩
section
variable {w wx:World} {n b7 b8 b9 bR:Nat} {l7 lR l9:List Int}
theorem Laid3.set7 (h:Laid3 w wx n b7 b8 b9 bR l7 lR l9) (k:Nat) (x:Int):Laid3 w (wx.setCell ⟨b7,k,none⟩ (.int .i64 x)) n b7 b8 b9 bR (l7.set k x) lR l9:=by
  obtain ⟨h1,h2,h3,h4,h5,h6,h7,h8,h9,h10,h11,h12,h13,h14,h15,h16,h17,h18,h19⟩:=h
  exact ⟨h1.set0 k x,h2.setOther _ _ h7,h3.setOther _ _ h6,by rw [World.cell?_setCell_other _ _ _ _ (fun e=>by injection e with e1 e2;omega)];exact h4,h5,h6,h7,h8,h9,h10,h11,h12,h13,h14,by simpa using h15,by simpa using h16,by simpa using h17,by simpa using h18,below_set h19 _ _ h11⟩
theorem Laid3.setR (h:Laid3 w wx n b7 b8 b9 bR l7 lR l9) (k:Nat) (x:Int):Laid3 w (wx.setCell ⟨bR,k,none⟩ (.int .i64 x)) n b7 b8 b9 bR l7 (lR.set k x) l9:=by
  obtain ⟨h1,h2,h3,h4,h5,h6,h7,h8,h9,h10,h11,h12,h13,h14,h15,h16,h17,h18,h19⟩:=h
  exact ⟨h1.setOther _ _ (fun e=>h7 e.symm),h2.set0 k x,h3.setOther _ _ (fun e=>h10 e.symm),by rw [World.cell?_setCell_other _ _ _ _ (fun e=>by injection e with e1 e2;omega)];exact h4,h5,h6,h7,h8,h9,h10,h11,h12,h13,h14,by simpa using h15,by simpa using h16,by simpa using h17,by simpa using h18,below_set h19 _ _ h14⟩
theorem Laid3.set9 (h:Laid3 w wx n b7 b8 b9 bR l7 lR l9) (k:Nat) (x:Int):Laid3 w (wx.setCell ⟨b9,k,none⟩ (.int .i64 x)) n b7 b8 b9 bR l7 lR (l9.set k x):=by
  obtain ⟨h1,h2,h3,h4,h5,h6,h7,h8,h9,h10,h11,h12,h13,h14,h15,h16,h17,h18,h19⟩:=h
  exact ⟨h1.setOther _ _ (fun e=>h6 e.symm),h2.setOther _ _ h10,h3.set0 k x,by rw [World.cell?_setCell_other _ _ _ _ (fun e=>by injection e with e1 e2;omega)];exact h4,h5,h6,h7,h8,h9,h10,h11,h12,h13,h14,by simpa using h15,by simpa using h16,by simpa using h17,by simpa using h18,below_set h19 _ _ h13⟩
theorem Laid3.drewN (h:Laid3 w wx n b7 b8 b9 bR l7 lR l9) (k:Nat):Laid3 w (wx.drewN k) n b7 b8 b9 bR l7 lR l9:=by
  obtain ⟨h1,h2,h3,h4,h5,h6,h7,h8,h9,h10,h11,h12,h13,h14,h15,h16,h17,h18,h19⟩:=h
  exact ⟨h1,h2,h3,h4,h5,h6,h7,h8,h9,h10,h11,h12,h13,h14,h15,h16,h17,h18,below_drewN h19 k⟩
theorem Laid3.drew (h:Laid3 w wx n b7 b8 b9 bR l7 lR l9):Laid3 w wx.drew n b7 b8 b9 bR l7 lR l9:=by
  obtain ⟨h1,h2,h3,h4,h5,h6,h7,h8,h9,h10,h11,h12,h13,h14,h15,h16,h17,h18,h19⟩:=h
  exact ⟨h1,h2,h3,h4,h5,h6,h7,h8,h9,h10,h11,h12,h13,h14,h15,h16,h17,h18,below_drew h19⟩
end
theorem Laid3.sorted {w wx w':World} {n b7 b8 b9 bR:Nat} {l7 lR l9 l9':List Int} (h:Laid3 w wx n b7 b8 b9 bR l7 lR l9) (hg:wx.grownBy w' (some b9)) (hr:Row w' b9 0 l9'):Laid3 w w' n b7 b8 b9 bR l7 lR l9':=by
  obtain ⟨h1,h2,h3,h4,h5,h6,h7,h8,h9,h10,h11,h12,h13,h14,h15,h16,h17,h18,h19⟩:=h
  have hs:=hg.size
  refine ⟨h1.grown hg (fun e=>h6 (Option.some.inj e).symm) h15,h2.grown hg (fun e=>h10 (Option.some.inj e)) h18,hr,?_,h5,h6,h7,h8,h9,h10,h11,h12,h13,h14,by omega,by omega,by omega,by omega,h19.trans (below_grownBy hg h13 h19.size)⟩
  rw [World.cell?_of_block (w:=wx) (hg.block b8 h16 (fun e=>h8 (Option.some.inj e)))];exact h4
def bumpL (n:Nat) (f:Nat→Nat) (o:List Nat) (j:Nat):List Nat:=(List.range n).map fun i=>f i+if i∈o.take j then 1 else 0
theorem bumpL_zero (n:Nat) (f:Nat→Nat) (o:List Nat):bumpL n f o 0=(List.range n).map f:=by
  unfold bumpL;apply List.map_congr_left;intro i _;simp
theorem bumpL_get {n:Nat} {f:Nat→Nat} {o:List Nat} {j y:Nat} (hn:o.Nodup) (hj:o[j]?=some y) (hy:y<n):(bumpL n f o j)[y]?=some (f y):=by
  have h:y∉o.take j:=by
    intro h
    obtain ⟨i,hi,he⟩:=List.getElem_of_mem h
    have hlen:i<j:=by rw [List.length_take] at hi;omega
    have hjo:=(List.getElem?_eq_some_iff.1 hj)
    obtain ⟨hjl,hje⟩:=hjo
    rw [List.getElem_take] at he
    have:=(List.nodup_iff_pairwise_ne.1 hn)
    have hne:=(List.pairwise_iff_getElem.1 this) i j (by omega) hjl hlen
    exact hne (by rw [he,hje])
  unfold bumpL
  simp [hy,h]
theorem bumpL_set {n:Nat} {f:Nat→Nat} {o:List Nat} {j y:Nat} (hj:o[j]?=some y):(bumpL n f o j).set y (f y+1)=bumpL n f o (j+1):=by
  have ht:o.take (j+1)=o.take j++[y]:=by rw [List.take_add_one,hj];rfl
  apply List.ext_getElem
  · simp [bumpL]
  · intro i h1 h2
    rw [List.getElem_set]
    simp only [bumpL,List.getElem_map,List.getElem_range,ht]
    by_cases e:y=i
    · subst e;simp
    · rw [if_neg e]
      have:i∈o.take j++[y]↔i∈o.take j:=by simp;intro h;exact absurd h.symm e
      simp only [this]
theorem parts_bump {t n:Nat} {ws o:List Nat} (hn:ws.length=n) (hp:o.Perm (List.range n)) (ho:o.Pairwise (R (rest t ws))):Parts t ws (bumpL n (quo t ws) o (miss t ws)):=by
  subst hn
  refine ⟨o,hp,ho,by simp [bumpL],fun i hi=>?_⟩
  simp [bumpL,List.getD,hi]
theorem sum_range_succ (f:Nat→Nat) (k:Nat):sumL ((List.range (k+1)).map f)=sumL ((List.range k).map f)+f k:=by
  rw [List.range_succ,List.map_append,sumL_app];simp [sumL]
theorem sum_range_le (f:Nat→Nat):∀ (n k:Nat),k≤n→sumL ((List.range k).map f)≤sumL ((List.range n).map f):=by
  intro n
  induction n with
  | zero=>intro k h;rw [Nat.le_zero.1 h];exact Nat.le_refl _
  | succ n ih =>
    intro k h
    by_cases e:k=n+1
    · rw [e];exact Nat.le_refl _
    · have:=ih k (by omega);rw [sum_range_succ];omega
theorem divide_any (t s n:Nat) (ws:List Nat) (v:Value) (w:World) (hv:Reads w 1 v n (ws.map (fun (x:Nat)=>Value.int .i64 (x:Int)))) (hn:ws.length=n) (h0:1≤n) (hbig:n≤512) (hs:s=sumL ws) (hpos:0<s) (hs2:s≤4000000000000000000) (ht:t≤1000000000000000) :
    Calls Try.prog 24 #[.int .i64 t,v,.int .i64 s] w fun e w'=>∃ (g:Nat) (p:List Nat),w.heap.size≤g∧g<w'.heap.size∧e=.returned (.slice (some ⟨g,0,none⟩) n n)∧Row w' g 0 (p.map Int.ofNat)∧Parts t ws p∧Below w.heap.size w w':=by
  obtain ⟨gv,off,cap,rfl,hc⟩:=hv.some (by omega)
  have hmk:=run_make_row' (P:=Try.prog) 22 3 (.int .i64 0) 8 Try.underlying22 Try.info3 rfl .i64 .i64 n (by omega) (by omega)
  have HC:=hid hc
  have HS:=hid (And.intro hs (And.intro hpos (And.intro hs2 ht)))
  have HN:=hid hn
  clear hv hc hs hpos hs2 ht hn
  go_enter Try.func24,Try.ntmps24
  go_upto_region 1 with fail
  go_cut [7,8,9] from 14 to 22 (fun p7 p8 p9 wx=>∃ b7 b8 b9 bR:Nat,p7=.slice (some ⟨b7,0,none⟩) n n∧p8=.pointer (some ⟨b8,0,none⟩)∧p9=.slice (some ⟨b9,0,none⟩) n n∧Laid3 w wx n b7 b8 b9 bR (List.replicate n 0) (List.replicate n 0) (List.replicate n 0))
  case first =>
    go_region
    all_goals go_wp2_with fail
    all_goals go_meet
    all_goals first
     | (refine ⟨_,_,_,w.heap.size,rfl,rfl,rfl,?_⟩
        unfold Laid3
        refine ⟨?_,?_,?_,by go_cell,by omega,by omega,by omega,by omega,by omega,by omega,by omega,by omega,by omega,by omega,(by first|(simp;done)|(simp;omega)),(by first|(simp;done)|(simp;omega)),(by first|(simp;done)|(simp;omega)),(by first|(simp;done)|(simp;omega)),?_⟩
        · refine Row.drew ?_;(iterate 4 (first|done|(refine row_made _ _ _ _ ?_;(simp;done))|(refine Row.alloc ?_ _ ?hh;case hh=>(first|(simp;done)|(simp;omega)))))
        · refine Row.drew ?_;(iterate 4 (first|done|(refine row_made _ _ _ _ ?_;(simp;done))|(refine Row.alloc ?_ _ ?hh;case hh=>(first|(simp;done)|(simp;omega)))))
        · refine Row.drew ?_;(iterate 4 (first|done|(refine row_made _ _ _ _ ?_;(simp;done))|(refine Row.alloc ?_ _ ?hh;case hh=>(first|(simp;done)|(simp;omega)))))
        · refine below_drew ?_;(iterate 5 (first|done|exact Below.refl _ _|(refine Below.alloc ?_ ?hh _;case hh=>(first|(simp;done)|(simp;omega))))))
     | (refine ⟨_,_,_,(w.heap.size+1),rfl,rfl,rfl,?_⟩
        unfold Laid3
        refine ⟨?_,?_,?_,by go_cell,by omega,by omega,by omega,by omega,by omega,by omega,by omega,by omega,by omega,by omega,(by first|(simp;done)|(simp;omega)),(by first|(simp;done)|(simp;omega)),(by first|(simp;done)|(simp;omega)),(by first|(simp;done)|(simp;omega)),?_⟩
        · refine Row.drew ?_;(iterate 4 (first|done|(refine row_made _ _ _ _ ?_;(simp;done))|(refine Row.alloc ?_ _ ?hh;case hh=>(first|(simp;done)|(simp;omega)))))
        · refine Row.drew ?_;(iterate 4 (first|done|(refine row_made _ _ _ _ ?_;(simp;done))|(refine Row.alloc ?_ _ ?hh;case hh=>(first|(simp;done)|(simp;omega)))))
        · refine Row.drew ?_;(iterate 4 (first|done|(refine row_made _ _ _ _ ?_;(simp;done))|(refine Row.alloc ?_ _ ?hh;case hh=>(first|(simp;done)|(simp;omega)))))
        · refine below_drew ?_;(iterate 5 (first|done|exact Below.refl _ _|(refine Below.alloc ?_ ?hh _;case hh=>(first|(simp;done)|(simp;omega))))))
     | (refine ⟨_,_,_,(w.heap.size+1+1),rfl,rfl,rfl,?_⟩
        unfold Laid3
        refine ⟨?_,?_,?_,by go_cell,by omega,by omega,by omega,by omega,by omega,by omega,by omega,by omega,by omega,by omega,(by first|(simp;done)|(simp;omega)),(by first|(simp;done)|(simp;omega)),(by first|(simp;done)|(simp;omega)),(by first|(simp;done)|(simp;omega)),?_⟩
        · refine Row.drew ?_;(iterate 4 (first|done|(refine row_made _ _ _ _ ?_;(simp;done))|(refine Row.alloc ?_ _ ?hh;case hh=>(first|(simp;done)|(simp;omega)))))
        · refine Row.drew ?_;(iterate 4 (first|done|(refine row_made _ _ _ _ ?_;(simp;done))|(refine Row.alloc ?_ _ ?hh;case hh=>(first|(simp;done)|(simp;omega)))))
        · refine Row.drew ?_;(iterate 4 (first|done|(refine row_made _ _ _ _ ?_;(simp;done))|(refine Row.alloc ?_ _ ?hh;case hh=>(first|(simp;done)|(simp;omega)))))
        · refine below_drew ?_;(iterate 5 (first|done|exact Below.refl _ _|(refine Below.alloc ?_ ?hh _;case hh=>(first|(simp;done)|(simp;omega))))))
     | (refine ⟨_,_,_,(w.heap.size+1+1+1),rfl,rfl,rfl,?_⟩
        unfold Laid3
        refine ⟨?_,?_,?_,by go_cell,by omega,by omega,by omega,by omega,by omega,by omega,by omega,by omega,by omega,by omega,(by first|(simp;done)|(simp;omega)),(by first|(simp;done)|(simp;omega)),(by first|(simp;done)|(simp;omega)),(by first|(simp;done)|(simp;omega)),?_⟩
        · refine Row.drew ?_;(iterate 4 (first|done|(refine row_made _ _ _ _ ?_;(simp;done))|(refine Row.alloc ?_ _ ?hh;case hh=>(first|(simp;done)|(simp;omega)))))
        · refine Row.drew ?_;(iterate 4 (first|done|(refine row_made _ _ _ _ ?_;(simp;done))|(refine Row.alloc ?_ _ ?hh;case hh=>(first|(simp;done)|(simp;omega)))))
        · refine Row.drew ?_;(iterate 4 (first|done|(refine row_made _ _ _ _ ?_;(simp;done))|(refine Row.alloc ?_ _ ?hh;case hh=>(first|(simp;done)|(simp;omega)))))
        · refine below_drew ?_;(iterate 5 (first|done|exact Below.refl _ _|(refine Below.alloc ?_ ?hh _;case hh=>(first|(simp;done)|(simp;omega))))))
  case rest =>
    obtain ⟨b7,b8,b9,bR,rfl,rfl,rfl,hlaid⟩:=hcut
    have HL0:=hid hlaid
    clear hlaid
    go_wp2
    go_loopg [10,11,12,26] n (fun m mv iv xv kv wr=>∃ (k:Nat),kv=.int .i64 k∧k≤n∧n≤m+k∧mv=.int .i64 ((t - sumL ((List.range k).map (quo t ws)):Nat):Int)∧Laid3 w wr n b7 b8 b9 bR (fillL n (quo t ws) k) (fillL n (rest t ws) k) (fillL n id k))
    case atStart=>exact ⟨0,rfl,by omega,by omega,by simp [sumL],by rw [fillL_zero,fillL_zero,fillL_zero];exact HL0.out⟩
    case round =>
      obtain ⟨k,rfl,hk,hm,rfl,hlaid⟩:=hrel
      have HL:=hid hlaid
      clear hlaid
      by_cases hkn:k<n
      · obtain ⟨x,hx⟩:∃ x,x=ws.getD k 0:=⟨_,rfl⟩
        have hxl:ws[k]?=some x:=by rw [hx];have:=HN.out;simp [List.getD,this,hkn]
        have hgv:gv<w.heap.size:=World.block_lt_of_cell? w _ (HC.out k (.int .i64 (x:Int)) (by simp [hxl]))
        have hcx:wr.cell? ⟨gv,off+k,none⟩=some (.int .i64 (x:Int)):=by
          rw [HL.out.2.2.2.2.2.2.2.2.2.2.2.2.2.2.2.2.2.2.cell (p:=⟨gv,off+k,none⟩) hgv]
          exact HC.out k _ (by simp [hxl])
        have hxs:x≤s:=by have:=HS.out.1;rw [this];exact sumL_mem (List.mem_of_getElem? hxl)
        have hsh:=fun w2=>share_any t x s w2 HS.out.2.2.2 hxs HS.out.2.1 HS.out.2.2.1
        have eq1:t*x / s=quo t ws k:=by unfold quo;rw [HS.out.1,hx]
        have eq2:t*x%s=rest t ws k:=by unfold rest;rw [HS.out.1,hx]
        rw [eq1,eq2] at hsh
        have HSH:=hid hsh
        have c7:wr.cell? ⟨b7,k,none⟩=some (.int .i64 0):=by have:=HL.out.1.1 k 0 (by rw [fillL_get _ _ _ _ hkn];simp);simpa using this
        have cR:wr.cell? ⟨bR,k,none⟩=some (.int .i64 0):=by have:=HL.out.2.1.1 k 0 (by rw [fillL_get _ _ _ _ hkn];simp);simpa using this
        have c9:wr.cell? ⟨b9,k,none⟩=some (.int .i64 0):=by have:=HL.out.2.2.1.1 k 0 (by rw [fillL_get _ _ _ _ hkn];simp);simpa using this
        have c8:=HL.out.2.2.2.1
        have f7:=HL.out.1.2
        have fR:=HL.out.2.1.2
        have f9:=HL.out.2.2.1.2
        have n7R:¬b7=bR:=HL.out.2.2.2.2.2.2.1
        have n8R:¬b8=bR:=HL.out.2.2.2.2.2.2.2.2.1
        have n78:¬b7=b8:=HL.out.2.2.2.2.1
        clear hsh hx hxl hgv hxs eq1 eq2
        obtain ⟨qk,hqk⟩:∃ qk,qk=quo t ws k:=⟨_,rfl⟩
        obtain ⟨rk,hrk⟩:∃ rk,rk=rest t ws k:=⟨_,rfl⟩
        rw [←hqk,←hrk] at HSH
        have HQ:=hid (And.intro hqk hrk)
        clear hqk hrk
        go_upto_region 6 with fail
        go_cut [26] from 26 to 54 (fun kv wx=>kv=.int .i64 k∧Laid3 w wx n b7 b8 b9 bR (fillL n (quo t ws) (k+1)) (fillL n (rest t ws) (k+1)) (fillL n id k))
        case first =>
          go_region_with (refine (HSH.out _).mono ?_;rintro e w' ⟨rfl,nn,rfl⟩)
          all_goals go_wp2_with fail
          all_goals go_meet
          all_goals
            refine ⟨rfl,?_⟩
            have h:=((HL.out.drewN (1+nn)).set7 k (qk:Int)).setR k (rk:Int)
            rw [HQ.out.1,HQ.out.2,fillL_set,fillL_set] at h
            rw [HQ.out.1,HQ.out.2]
            exact h
        case rest =>
          obtain ⟨rfl,hl2⟩:=hcut
          have HL2:=hid hl2
          clear hl2 c7 cR c9 c8 f7 fR f9 HL
          have c7:wc.cell? ⟨b7,k,none⟩=some (.int .i64 (qk:Int)):=by
            have:=HL2.out.1.1 k (qk:Int) (by rw [fillL_get _ _ _ _ hkn,HQ.out.1];simp);simpa using this
          have c9:wc.cell? ⟨b9,k,none⟩=some (.int .i64 0):=by have:=HL2.out.2.2.1.1 k 0 (by rw [fillL_get _ _ _ _ hkn];simp);simpa using this
          have f9:=HL2.out.2.2.1.2
          obtain ⟨M,hM⟩:∃ M,M=t - sumL ((List.range k).map (quo t ws)):=⟨_,rfl⟩
          obtain ⟨M2,hM2⟩:∃ M2,M2=t - sumL ((List.range (k+1)).map (quo t ws)):=⟨_,rfl⟩
          have hMM:M=M2+qk∧M≤1000000000000000:=by
            have h1:=sum_range_succ (quo t ws) k
            have h2:=sum_range_le (quo t ws) n (k+1) (by omega)
            have h3:=(miss_eq t ws (by have:=HS.out;omega)).1
            rw [HN.out] at h3
            have:=HQ.out.1
            have:=HS.out
            omega
          rw [←hM]
          have w1:IntKind.i64.wrap ((M:Int) - (qk:Int))=(M2:Int):=by rw [IntWalk.i64_in _ (by omega)];omega
          have HMM:=hid (And.intro hM2 hMM)
          clear hM hM2 hMM
          go_wp2
          go_roundg (gk - 1)
          case measure=>omega
          case rel =>
            refine ⟨k+1,by go_num,by omega,by omega,by rw [←HMM.out.1],?_⟩
            have h:=HL2.out.set9 k ((id k:Nat):Int)
            rw [fillL_set] at h
            exact h
      · have hk2:k=n:=by omega
        subst hk2
        rw [fillL_full,fillL_full,fillL_full] at HL
        have hmf:∀ (fn:Fn) (first cap:Array Value) (w:World),(Instr.makeFunc fn first cap).run Try.prog w=.ok (.func fn first cap) w:=fun _ _ _ _=>rfl
        have hl:=HL.out
        have hcm:Cmp wr b8 b9 ((List.range k).map (rest t ws)):=⟨bR,0,k,k,hl.2.2.2.1,by simp,fun i x hi=>hl.2.1.1 i x (by rw [List.getElem?_map,hi];rfl),hl.2.2.2.2.2.2.2.1,fun e=>hl.2.2.2.2.2.2.2.2.2.1 e.symm,hl.2.2.2.2.2.2.2.2.2.2.2.2.2.2.2.1,hl.2.2.2.2.2.2.2.2.2.2.2.2.2.2.2.2.2.1,fun x hx=>by
          obtain ⟨i,_,rfl⟩:=List.mem_map.1 hx
          have:=rest_lt t ws (by have:=HS.out;omega) i
          have:=HS.out
          omega⟩
        have hsort:=sort_any b9 0 k k b8 (List.range k) ((List.range k).map (rest t ws)) wr (by have:=hl.2.2.1;simpa using this) hl.2.2.2.2.2.2.2.2.2.2.2.2.2.2.2.2.1 hcm (by simp) (by omega) (by simp) (List.pairwise_lt_range)
        have HSO:=hid hsort
        clear hl hcm hsort
        obtain ⟨M,hM⟩:∃ M,M=t - sumL ((List.range k).map (quo t ws)):=⟨_,rfl⟩
        have hM1:M=miss t ws∧M≤k:=by
          have e:M=miss t ws:=by rw [hM];unfold miss;rw [HN.out]
          refine ⟨e,?_⟩
          have:=miss_le t ws (by have:=HS.out;omega)
          rw [HN.out] at this;omega
        rw [←hM]
        have HM:=hid hM1
        clear hM hM1
        go_wp2_with fail
        refine HSO.out.mono ?_
        rintro e w' ⟨rfl,hg,o,hp,ho,hrow⟩
        have hl2:=HL.out.sorted hg hrow
        have ho2:o.Pairwise (R (rest t ws)):=by
          refine List.Pairwise.imp_of_mem ?_ ho
          intro a b ha hb hab
          have ha2:a<k:=by have:=hp.subset ha;simpa using this
          have hb2:b<k:=by have:=hp.subset hb;simpa using this
          unfold R at *
          simpa [List.getD,ha2,hb2] using hab
        have HO:=hid (And.intro hp ho2)
        have HL2:=hid hl2
        clear hg hp ho hrow hl2 ho2 HSO
        go_wp2
        go_loopg [13,59] M (fun m iv jv wr=>∃ (j:Nat),jv=.int .i64 j∧j≤M∧M≤m+j∧Laid3 w wr k b7 b8 b9 bR ((bumpL k (quo t ws) o j).map Int.ofNat) (((List.range k).map (rest t ws)).map Int.ofNat) (o.map Int.ofNat))
        case atStart=>exact ⟨0,rfl,by omega,by omega,by rw [bumpL_zero];exact HL2.out⟩
        case round =>
          obtain ⟨j,rfl,hj,hm2,hl3⟩:=hrel
          have HL3:=hid hl3
          clear hl3
          by_cases hjm:j<M
          · have hol:o.length=k:=by rw [HO.out.1.length_eq,List.length_range]
            have hjk:j<k:=by have:=HM.out;omega
            obtain ⟨y,hy⟩:∃ y,o[j]?=some y:=⟨o[j]'(by omega),by simp [hol,hjk]⟩
            have hyk:y<k:=by have:=HO.out.1.subset (List.mem_of_getElem? hy);simpa using this
            have hnd:o.Nodup:=HO.out.1.nodup_iff.2 List.nodup_range
            have hget:=bumpL_get (f:=quo t ws) hnd hy hyk
            have c9:wr.cell? ⟨b9,j,none⟩=some (.int .i64 (y:Int)):=by have:=HL3.out.2.2.1.1 j (y:Int) (by rw [List.getElem?_map,hy];rfl);simpa using this
            obtain ⟨qy,hqy⟩:∃ qy,qy=quo t ws y:=⟨_,rfl⟩
            rw [←hqy] at hget
            have c7:wr.cell? ⟨b7,y,none⟩=some (.int .i64 (qy:Int)):=by have:=HL3.out.1.1 y (qy:Int) (by rw [List.getElem?_map,hget];rfl);simpa using this
            have f7:=HL3.out.1.2
            have hqb:qy≤1000000000000000:=by
              have h1:=(miss_eq t ws (by have:=HS.out;omega)).1
              have h2:qy≤sumL ((List.range ws.length).map (quo t ws)):=by rw [hqy];exact sumL_mem (List.mem_map.2 ⟨y,by rw [HN.out];simpa using hyk,rfl⟩)
              have:=HS.out
              omega
            have HY:=hid (And.intro hy hqy)
            clear hy hqy hget hnd hol
            go_wp2
            go_roundg (gk - 1)
            case measure=>omega
            case rel =>
              refine ⟨j+1,by go_num,by omega,by omega,?_⟩
              have h:=HL3.out.set7 y (Int.ofNat (qy+1))
              rw [←List.map_set,HY.out.2,bumpL_set HY.out.1,←HY.out.2] at h
              exact h
          · have hjM:j=M:=by omega
            subst hjM
            go_wp2
            go_ret
            have h:=HL3.out
            exact ⟨b7,_,h.2.2.2.2.2.2.2.2.2.2.1,h.2.2.2.2.2.2.2.2.2.2.2.2.2.2.1,rfl,h.1,by have:=parts_bump (t:=t) HN.out HO.out.1 HO.out.2;rw [←HM.out.1] at this;exact this,h.2.2.2.2.2.2.2.2.2.2.2.2.2.2.2.2.2.2⟩
end Go.Proofs.Ytnkmhbiklffjlaa
set_option maxHeartbeats 4000000
namespace Go.Proofs.Ytnkmhbiklffjlaa
open Go.RowKit Ap
open Lib (hid)
def prefL (res:List Int) (n k:Nat):List Int:=res.take k++List.replicate (n - k) 0
theorem prefL_zero (res:List Int) (n:Nat):prefL res n 0=List.replicate n 0:=by simp [prefL]
theorem prefL_full (res:List Int) (n:Nat) (h:res.length=n):prefL res n n=res:=by unfold prefL;rw [←h,List.take_length];simp
theorem prefL_set {res:List Int} {n k:Nat} {y:Int} (hk:k<n) (hy:res[k]?=some y):(prefL res n k).set k y=prefL res n (k+1):=by
 have hl:=(List.getElem?_eq_some_iff.1 hy).1
 unfold prefL
 rw [show n - k=(n - (k+1))+1 by omega,List.replicate_succ,set_mid _ _ _ _ _ (by rw [List.length_take];omega),List.take_add_one,hy]
 simp
theorem prefL_get {res:List Int} {n k:Nat} (hk:k<n) (hl:res.length=n):(prefL res n k)[k]?=some 0:=by
 unfold prefL
 rw [show n - k=(n - (k+1))+1 by omega,List.replicate_succ,get_mid _ _ _ _ (by rw [List.length_take];omega)]
theorem sumL_take_le (ws:List Nat) (k:Nat):sumL (ws.take k)≤sumL ws:=by
 conv=>rhs;rw [←List.take_append_drop k ws]
 rw [sumL_app];omega
theorem spread1_any (t s n:Nat) (ws:List Nat) (v:Value) (w:World) (hv:Reads w 1 v n (ws.map (fun (x:Nat)=>Value.int .i64 (x:Int)))) (hn:ws.length=n) (h0:1≤n) (hbig:n≤1000) (hs:s=sumL ws) (hpos:0<s) (hs2:s≤4000000000000000000) (ht:t≤1000000000000000) :
  Calls Try.prog 27 #[.int .i64 t,v,.int .i64 s] w fun e w'=>∃ g:Nat,w.heap.size≤g∧g<w'.heap.size∧e=.returned (.slice (some ⟨g,0,none⟩) n n)∧Row w' g 0 (spreadL t s 0 0 ws)∧Below w.heap.size w w':=by
 obtain ⟨gv,off,cap,rfl,hc⟩:=hv.some (by omega)
 have hmk:=run_make_row' (P:=Try.prog) 22 3 (.int .i64 0) 8 Try.underlying22 Try.info3 rfl .i64 .i64 n (by omega) (by omega)
 have HC:=hid hc
 have HS:=hid (And.intro hs (And.intro hpos (And.intro hs2 ht)))
 have HN:=hid hn
 obtain ⟨res,hres⟩:∃ res,res=spreadL t s 0 0 ws:=⟨_,rfl⟩
 have HRES:=hid (show res=spreadL t s 0 0 ws∧res.length=n from ⟨hres,by rw [hres,spread_len,hn]⟩)
 rw [←hres]
 clear hv hc hs hpos hs2 ht hn hres
 go_enter Try.func27,Try.ntmps27
 go_wp2
 go_loopg [8,9,10,11,12,13,19] n (fun m cv bv iv xv sv rv kv wr=>∃ (k b c:Nat),kv=.int .i64 k∧cv=.int .i64 c∧bv=.int .i64 b∧k≤n∧n≤m+k∧c=sumL (ws.take k)∧b≤1000000000000001∧res.drop k=spreadL t s b c (ws.drop k)∧Row wr w.heap.size 0 (prefL res n k)∧w.heap.size<wr.heap.size∧Below w.heap.size w wr)
 case atStart=>exact ⟨0,0,0,rfl,rfl,rfl,by omega,by omega,by simp [sumL],by omega,HRES.out.1,by rw [prefL_zero];exact row_made _ _ _ _ rfl,by simp,(Below.refl _ _).alloc (Nat.le_refl _) _⟩
 case round =>
  obtain ⟨k,b,c,rfl,rfl,rfl,hk,hm,hcs,hb,hdrop,hrow,hsz,hbel⟩:=hrel
  have HR:=hid (And.intro hcs (And.intro hdrop (And.intro hrow (And.intro hsz hbel))))
  clear hcs hdrop hrow hsz hbel
  by_cases hkn:k<n
  ·obtain ⟨x,hxl⟩:∃ x,ws[k]?=some x:=⟨ws[k]'(by have:=HN.out;omega),by have:=HN.out;simp [this,hkn]⟩
   have hgv:gv<w.heap.size:=World.block_lt_of_cell? w _ (HC.out k (.int .i64 (x:Int)) (by simp [hxl]))
   have hcx:wr.cell? ⟨gv,off+k,none⟩=some (.int .i64 (x:Int)):=by
    rw [HR.out.2.2.2.2.cell (p:=⟨gv,off+k,none⟩) hgv]
    exact HC.out k _ (by simp [hxl])
   have htk:sumL (ws.take (k+1))=c+x:=by rw [List.take_add_one,hxl,sumL_app,HR.out.1];simp [sumL]
   have hcx2:c+x≤s:=by have:=sumL_take_le ws (k+1);rw [HS.out.1];omega
   have hdk:ws.drop k=x::ws.drop (k+1):=by
    have hl:k<ws.length:=by have:=HN.out;omega
    rw [List.drop_eq_getElem_cons hl];congr 1
    rw [List.getElem?_eq_getElem hl] at hxl;exact Option.some.inj hxl
   have hd:=HR.out.2.1
   rw [hdk,spreadL] at hd
   have hrk:res[k]?=some (((rnd t s (c+x):Nat):Int) - (b:Int)):=by
    have:(res.drop k)[0]?=some (((rnd t s (c+x):Nat):Int) - (b:Int)):=by rw [hd];rfl
    simpa using this
   have hdk1:res.drop (k+1)=spreadL t s (rnd t s (c+x)) (c+x) (ws.drop (k+1)):=by
    have:(res.drop k).drop 1=spreadL t s (rnd t s (c+x)) (c+x) (ws.drop (k+1)):=by rw [hd];rfl
    rw [List.drop_drop] at this;exact this
   have hsh:=fun w2=>share_any t (c+x) s w2 HS.out.2.2.2 hcx2 HS.out.2.1 HS.out.2.2.1
   obtain ⟨so,hso⟩:∃ so,so=rnd t s (c+x):=⟨_,rfl⟩
   obtain ⟨q,hq⟩:∃ q,q=t*(c+x) / s:=⟨_,rfl⟩
   obtain ⟨r,hr⟩:∃ r,r=t*(c+x)%s:=⟨_,rfl⟩
   rw [←hq,←hr] at hsh
   rw [←hso] at hrk hdk1
   have hso2:so=if s - r<r∨(r=s - r∧q%2=1) then q+1 else q:=by rw [hso,hq,hr];rfl
   have hqb:q≤1000000000000000:=by
    have h1:q≤t:=by rw [hq];exact Nat.div_le_of_le_mul (by rw [Nat.mul_comm s];exact Nat.mul_le_mul_left _ hcx2)
    have:=HS.out;omega
   have hrs:r<s:=by rw [hr];exact Nat.mod_lt _ HS.out.2.1
   have hs3:=HS.out.2.2.1
   obtain ⟨c2,hc2⟩:∃ c2,c2=c+x:=⟨_,rfl⟩
   rw [←hc2] at hsh hdk1 htk hcx2
   have wc:IntKind.i64.wrap ((c:Int)+(x:Int))=(c2:Int):=by rw [IntWalk.i64_in _ (by omega)];omega
   have HSH:=hid hsh
   have HD:=hid (And.intro hrk (And.intro hdk1 htk))
   have c7:wr.cell? ⟨w.heap.size,k,none⟩=some (.int .i64 0):=by have:=HR.out.2.2.1.1 k 0 (prefL_get hkn HRES.out.2);simpa using this
   have f7:=HR.out.2.2.1.2
   obtain ⟨sr,hsr⟩:∃ sr,sr=s - r:=⟨_,rfl⟩
   have wsr:IntKind.i64.wrap ((s:Int) - (r:Int))=(sr:Int):=by rw [IntWalk.i64_in _ (by omega)];omega
   have wq:IntKind.i64.wrap ((q:Int)+1)=((q+1:Nat):Int):=by rw [IntWalk.i64_in _ (by omega)];omega
   rw [←hsr] at hso2
   have hq2:(q:Int).tmod 2=((q%2:Nat):Int):=by rw [Int.tmod_eq_emod_of_nonneg (by omega)];omega
   have HSO:=hid hso2
   have hsrb:sr≤4000000000000000000:=by omega
   clear hxl hgv htk hcx2 hdk hd hrk hdk1 hsh hso hq hr hso2 hrs hs3 hc2 hsr
   by_cases p1:sr<r
   ·have p1':(sr:Int)<r:=by omega
    have hres:so=q+1:=by rw [HSO.out];rw [if_pos (.inl p1)]
    have wd:IntKind.i64.wrap (((q+1:Nat):Int) - (b:Int))=((q+1:Nat):Int) - (b:Int):=IntWalk.i64_in _ (by omega)
    have HRS:=hid hres
    clear hres
    go_wp2_with (go_at_call 28;refine (HSH.out _).mono ?_;rintro e w' ⟨rfl,nn,rfl⟩)
    go_roundg (gk - 1)
    case measure=>omega
    case rel =>
     refine ⟨k+1,q+1,c2,by go_num,by go_num,by go_num,by omega,by omega,HD.out.2.2.symm,by omega,by have:=HD.out.2.1;rw [HRS.out] at this;exact this,?_,by have:=HR.out.2.2.2.1;simpa using this,?_⟩
     ·have h:=(HR.out.2.2.1.drewN nn).set0 k (((q+1:Nat):Int) - (b:Int))
      have hr2:=HD.out.1
      rw [HRS.out] at hr2
      rw [prefL_set hkn hr2] at h
      exact h
     ·exact below_set (below_drewN HR.out.2.2.2.2 _) _ _ (Nat.le_refl _)
   ·have p1':¬(sr:Int)<r:=by omega
    by_cases p2:r=sr
    ·subst p2
     by_cases p3:q%2=1
     ·have p3':(((q%2:Nat):Int)==1)=true:=by rw [p3];rfl
      have hres:so=q+1:=by rw [HSO.out];rw [if_pos (.inr ⟨rfl,p3⟩)]
      have wd:IntKind.i64.wrap (((q+1:Nat):Int) - (b:Int))=((q+1:Nat):Int) - (b:Int):=IntWalk.i64_in _ (by omega)
      have HRS:=hid hres
      clear hres
      go_wp2_with (go_at_call 28;refine (HSH.out _).mono ?_;rintro e w' ⟨rfl,nn,rfl⟩)
      go_roundg (gk - 1)
      case measure=>omega
      case rel =>
       refine ⟨k+1,q+1,c2,by go_num,by go_num,by go_num,by omega,by omega,HD.out.2.2.symm,by omega,by have:=HD.out.2.1;rw [HRS.out] at this;exact this,?_,by have:=HR.out.2.2.2.1;simpa using this,?_⟩
       ·have h:=(HR.out.2.2.1.drewN nn).set0 k (((q+1:Nat):Int) - (b:Int))
        have hr2:=HD.out.1
        rw [HRS.out] at hr2
        rw [prefL_set hkn hr2] at h
        exact h
       ·exact below_set (below_drewN HR.out.2.2.2.2 _) _ _ (Nat.le_refl _)
     ·have p3':(((q%2:Nat):Int)==1)=false:=beq_eq_false_iff_ne.2 (by omega)
      have hres:so=q:=by rw [HSO.out];rw [if_neg (by omega)]
      have wd:IntKind.i64.wrap (((q:Nat):Int) - (b:Int))=((q:Nat):Int) - (b:Int):=IntWalk.i64_in _ (by omega)
      have HRS:=hid hres
      clear hres
      go_wp2_with (go_at_call 28;refine (HSH.out _).mono ?_;rintro e w' ⟨rfl,nn,rfl⟩)
      go_roundg (gk - 1)
      case measure=>omega
      case rel =>
       refine ⟨k+1,q,c2,by go_num,by go_num,by go_num,by omega,by omega,HD.out.2.2.symm,by omega,by have:=HD.out.2.1;rw [HRS.out] at this;exact this,?_,by have:=HR.out.2.2.2.1;simpa using this,?_⟩
       ·have h:=(HR.out.2.2.1.drewN nn).set0 k (((q:Nat):Int) - (b:Int))
        have hr2:=HD.out.1
        rw [HRS.out] at hr2
        rw [prefL_set hkn hr2] at h
        exact h
       ·exact below_set (below_drewN HR.out.2.2.2.2 _) _ _ (Nat.le_refl _)
    ·have p2':((r:Int)==(sr:Int))=false:=beq_eq_false_iff_ne.2 (by omega)
     have hres:so=q:=by rw [HSO.out];rw [if_neg (by omega)]
     have wd:IntKind.i64.wrap (((q:Nat):Int) - (b:Int))=((q:Nat):Int) - (b:Int):=IntWalk.i64_in _ (by omega)
     have HRS:=hid hres
     clear hres
     go_wp2_with (go_at_call 28;refine (HSH.out _).mono ?_;rintro e w' ⟨rfl,nn,rfl⟩)
     go_roundg (gk - 1)
     case measure=>omega
     case rel =>
      refine ⟨k+1,q,c2,by go_num,by go_num,by go_num,by omega,by omega,HD.out.2.2.symm,by omega,by have:=HD.out.2.1;rw [HRS.out] at this;exact this,?_,by have:=HR.out.2.2.2.1;simpa using this,?_⟩
      ·have h:=(HR.out.2.2.1.drewN nn).set0 k (((q:Nat):Int) - (b:Int))
       have hr2:=HD.out.1
       rw [HRS.out] at hr2
       rw [prefL_set hkn hr2] at h
       exact h
      ·exact below_set (below_drewN HR.out.2.2.2.2 _) _ _ (Nat.le_refl _)
  ·have hk2:k=n:=by omega
   have HP:=hid (show prefL res n k=res by rw [hk2];exact prefL_full _ _ HRES.out.2)
   go_wp2
   go_ret
   exact ⟨w.heap.size,Nat.le_refl _,HR.out.2.2.2.1,rfl,by have:=HR.out.2.2.1;rw [HP.out] at this;exact this,HR.out.2.2.2.2⟩
end Go.Proofs.Ytnkmhbiklffjlaa
set_option maxHeartbeats 4000000
namespace Go.Proofs.Ytnkmhbiklffjlaa
open Go.RowKit Ap
open Lib (hid)
theorem checkL_ok (ws:List Nat) (hall:∀ x∈ws,x≤1000000000000000):∀ a:Int,checkL (ws.map Int.ofNat) a=some (a+(sumL ws:Nat)):=by
 induction ws with
 | nil=>intro a;simp [checkL,sumL]
 | cons x ws ih =>
  intro a
  have hx:=hall x (by simp)
  simp only [List.map_cons,checkL]
  rw [if_neg (by simp;omega),ih (fun y hy=>hall y (by simp [hy]))]
  simp only [sumL]
  congr 1
  simp;omega
structure Valid (w:World) (v:Value) (n:Nat) (ws:List Nat):Prop where
 reads:Reads w 1 v n (ws.map (fun (x:Nat)=>Value.int .i64 (x:Int)))
 len:ws.length=n
 pos:1≤n
 small:n≤512
 all:∀ x∈ws,x≤1000000000000000
theorem Valid.below {w w':World} {v:Value} {n:Nat} {ws:List Nat} (h:Valid w v n ws) (hb:Below w.heap.size w w'):Valid w' v n ws:=⟨h.reads.below hb,h.len,h.pos,h.small,h.all⟩
theorem Valid.sum {w:World} {v:Value} {n:Nat} {ws:List Nat} (h:Valid w v n ws):sumL ws≤512000000000000000:=by
 have:=sumL_le h.all
 have:=h.len
 have:=h.small
 have:ws.length*1000000000000000≤512*1000000000000000:=Nat.mul_le_mul_right _ (by omega)
 omega
theorem check_ok (n:Nat) (ws:List Nat) (v:Value) (w:World) (h:Valid w v n ws) :
  Calls Try.prog 25 #[v] w fun e w'=>e=.returned (.tuple #[.int .i64 (sumL ws:Nat),.int .i64 0])∧w=w':=by
 have hr:Reads w 1 v (ws.map Int.ofNat).length ((ws.map Int.ofNat).map (Value.int .i64)):=by
  have:=h.reads
  rw [List.length_map,h.len,List.map_map];exact this
 have he:checkR (ws.map Int.ofNat)=(((sumL ws:Nat):Int),(0:Int)):=by
  unfold checkR
  rw [List.length_map,h.len,if_neg (by have:=h.pos;have:=h.small;omega),checkL_ok ws h.all]
  simp
 have:=check_any (ws.map Int.ofNat) v w hr
 rw [he] at this
 exact this
def OutP (good:Nat→List Nat→List Int→Prop) (t:Int) (n:Nat) (ws:List Nat) (w:World) (e:Ending) (w':World):Prop :=
 ∃ (g:Nat) (l:List Int),w.heap.size≤g∧g<w'.heap.size∧e=.returned (.tuple #[.slice (some ⟨g,0,none⟩) n n,.int .i64 0])∧good t.natAbs ws l∧Row w' g 0 (if t<0 then l.map (- ·) else l)∧Below w.heap.size w w'
def GoodD (t:Nat) (ws:List Nat) (l:List Int):Prop:=∃ p,Parts t ws p∧l=p.map Int.ofNat
def GoodS (t:Nat) (ws:List Nat) (l:List Int):Prop:=l=spreadL t (sumL ws) 0 0 ws
theorem GoodD.bd {t:Nat} {ws:List Nat} {l:List Int} (h:GoodD t ws l) (hs:0<sumL ws) (ht:t≤1000000000000000):l.length=ws.length∧∀ x∈l,-10000000000000000≤x∧x≤10000000000000000:=by
 obtain ⟨p,hp,rfl⟩:=h
 have hsum:=parts_sum hs hp
 obtain ⟨o,_,_,hl,_⟩:=hp
 refine ⟨by simp [hl],fun x hx=>?_⟩
 obtain ⟨y,hy,rfl⟩:=List.mem_map.1 hx
 have:=sumL_mem hy
 constructor
 ·have:(0:Int)≤Int.ofNat y:=Int.natCast_nonneg y
  omega
 ·show (y:Int)≤_
  omega
theorem rnd_bd (t s c:Nat) (hc:c≤s) (hs:0<s):rnd t s c≤t+1:=by
 have h:=(rnd_le t s c).2
 have:t*c / s≤t:=Nat.div_le_of_le_mul (by rw [Nat.mul_comm s];exact Nat.mul_le_mul_left _ hc)
 omega
theorem spreadL_bd (t s:Nat) (hs:0<s) (ht:t≤1000000000000000):∀ (ws:List Nat) (b c:Nat),c+sumL ws≤s→b≤1000000000000001→∀ x∈spreadL t s b c ws,-10000000000000000≤x∧x≤10000000000000000:=by
 intro ws
 induction ws with
 | nil=>intro b c _ _ x hx;simp [spreadL] at hx
 | cons w ws ih =>
  intro b c hc hb x hx
  simp only [sumL] at hc
  have h1:=rnd_bd t s (c+w) (by omega) hs
  rcases List.mem_cons.1 hx with rfl|hx
  ·omega
  ·exact ih _ _ (by omega) (by omega) x hx
theorem GoodS.bd {t:Nat} {ws:List Nat} {l:List Int} (h:GoodS t ws l) (hs:0<sumL ws) (ht:t≤1000000000000000):l.length=ws.length∧∀ x∈l,-10000000000000000≤x∧x≤10000000000000000:=by
 unfold GoodS at h
 subst h
 exact ⟨spread_len _ _ _ _ _,spreadL_bd t _ hs ht ws 0 0 (by omega) (by omega)⟩
theorem reads_row {w:World} {g n cap:Nat} {l:List Int} (h:Row w g 0 l) (hl:l.length=n) (hn:n≤1000000):Reads w 1 (.slice (some ⟨g,0,none⟩) n cap) n (l.map (Value.int .i64)):=by
 refine ⟨by simp [hl],by omega,.inr ⟨g,0,cap,rfl,fun j u hu=>?_⟩⟩
 rw [List.getElem?_map] at hu
 cases hx:l[j]? with
 | none=>rw [hx] at hu;simp at hu
 | some x =>
  rw [hx] at hu
  have:u=.int .i64 x:=by simpa using hu.symm
  rw [this];exact h.1 j x hx
theorem divide_good (t n:Nat) (ws:List Nat) (v:Value) (w:World) (h:Valid w v n ws) (hpos:0<sumL ws) (ht:t≤1000000000000000) :
  Calls Try.prog 24 #[.int .i64 t,v,.int .i64 (sumL ws:Nat)] w fun e w'=>∃ (g:Nat) (l:List Int),w.heap.size≤g∧g<w'.heap.size∧e=.returned (.slice (some ⟨g,0,none⟩) n n)∧Row w' g 0 l∧GoodD t ws l∧Below w.heap.size w w':=by
 refine (divide_any t (sumL ws) n ws v w h.reads h.len h.pos h.small rfl hpos (by have:=h.sum;omega) ht).mono ?_
 rintro e w' ⟨g,p,h1,h2,h3,h4,h5,h6⟩
 exact ⟨g,_,h1,h2,h3,h4,⟨p,h5,rfl⟩,h6⟩
theorem spread_good (t n:Nat) (ws:List Nat) (v:Value) (w:World) (h:Valid w v n ws) (hpos:0<sumL ws) (ht:t≤1000000000000000) :
  Calls Try.prog 27 #[.int .i64 t,v,.int .i64 (sumL ws:Nat)] w fun e w'=>∃ (g:Nat) (l:List Int),w.heap.size≤g∧g<w'.heap.size∧e=.returned (.slice (some ⟨g,0,none⟩) n n)∧Row w' g 0 l∧GoodS t ws l∧Below w.heap.size w w':=by
 refine (spread1_any t (sumL ws) n ws v w h.reads h.len h.pos (by have:=h.small;omega) rfl hpos (by have:=h.sum;omega) ht).mono ?_
 rintro e w' ⟨g,h1,h2,h3,h4,h6⟩
 exact ⟨g,_,h1,h2,h3,h4,rfl,h6⟩
theorem mirD_any (t:Int) (n:Nat) (ws:List Nat) (v:Value) (w:World) (h:Valid w v n ws) (hpos:0<sumL ws) (ht1:-1000000000000000≤t) (ht2:t≤1000000000000000) :
  Calls Try.prog 23 #[.int .i64 t,v,.func (.func 24) #[] #[]] w (OutP GoodD t n ws w):=by
 have q1:¬t < -1000000000000000:=by omega
 have q2:¬1000000000000000<t:=by omega
 have hsb:=h.sum
 have hn19:=h.small
 have HV:=hid h
 have HP:=hid hpos
 have hlen:=h.len
 have HLEN:=hid hlen
 clear hlen h hpos
 obtain ⟨s,hs⟩:∃ s,s=sumL ws:=⟨_,rfl⟩
 have HCK:=hid (check_ok n ws v w HV.out)
 have HD:=hid (fun T hT=>divide_good T n ws v w HV.out HP.out hT)
 rw [←hs] at HCK HD hsb
 have hs0:((s:Int)==0)=false:=beq_eq_false_iff_ne.2 (by have:=HP.out;omega)
 have HS:=hid hs
 clear hs
 by_cases ht:0≤t
 ·obtain ⟨T,rfl⟩:=Int.eq_ofNat_of_zero_le ht
  have hT:T≤1000000000000000:=by omega
  go_enter Try.func23,Try.ntmps23
  go_wp2_with (go_at_call 25;refine HCK.out.mono ?_;rintro e w' ⟨rfl,rfl⟩)
  refine (HD.out T hT).mono ?_
  rintro e w' ⟨g,l,h1,h2,rfl,h4,h5,h6⟩
  have HH:=hid (And.intro h1 (And.intro h2 (And.intro h4 (And.intro h5 h6))))
  clear h1 h2 h4 h5 h6
  go_wp2
  go_ret2
  exact ⟨g,l,HH.out.1,HH.out.2.1,rfl,by have:=HH.out.2.2.2.1;simpa using this,by rw [if_neg (by omega)];exact HH.out.2.2.1,HH.out.2.2.2.2⟩
 ·obtain ⟨T,hT0⟩:∃ T:Nat,-t=T:=⟨(-t).toNat,by omega⟩
  have hT:T≤1000000000000000:=by omega
  have hneg:IntKind.i64.wrap (-t)=(T:Int):=by rw [IntWalk.i64_in _ (by omega)];exact hT0
  have HT:=hid (show t.natAbs=T∧t<0 by omega)
  clear hT0
  go_enter Try.func23,Try.ntmps23
  go_wp2_with (go_at_call 25;refine HCK.out.mono ?_;rintro e w' ⟨rfl,rfl⟩)
  refine (HD.out T hT).mono ?_
  rintro e w' ⟨g,l,h1,h2,rfl,h4,h5,h6⟩
  have hbd:=h5.bd HP.out hT
  have HH:=hid (And.intro h1 (And.intro h2 (And.intro h4 (And.intro h5 h6))))
  have HB:=hid hbd
  have HLL:=hid (show l.length=n by rw [hbd.1];exact HLEN.out)
  clear h1 h2 h4 h5 h6 hbd
  go_wp2
  go_loopg [11,47] n (fun m iv kv wr=>∃ k:Nat,kv=.int .i64 k∧k≤n∧n≤m+k∧Row wr g 0 ((l.take k).map (- ·)++l.drop k)∧g<wr.heap.size∧Below w.heap.size w wr)
  case atStart=>exact ⟨0,rfl,by omega,by omega,by simpa using HH.out.2.2.1,HH.out.2.1,HH.out.2.2.2.2⟩
  case round =>
   obtain ⟨k,rfl,hk,hm,hrow,hsz,hbel⟩:=hrel
   have HR:=hid (And.intro hrow (And.intro hsz hbel))
   clear hrow hsz hbel
   by_cases hkn:k<n
   ·obtain ⟨x,hx⟩:∃ x,l[k]?=some x:=⟨l[k]'(by have:=HLL.out;omega),by have:=HLL.out;simp [this,hkn]⟩
    have hdk:l.drop k=x::l.drop (k+1):=by
     have hl:k<l.length:=by have:=HLL.out;omega
     rw [List.drop_eq_getElem_cons hl];congr 1
     rw [List.getElem?_eq_getElem hl] at hx;exact Option.some.inj hx
    have hlk:k=((l.take k).map (- ·)).length:=by rw [List.length_map,List.length_take];have:=HLL.out;omega
    have hrow:=HR.out.1
    rw [hdk] at hrow
    have hcx:wr.cell? ⟨g,k,none⟩=some (.int .i64 x):=by have:=hrow.1 k x (get_mid _ _ _ _ hlk);simpa using this
    have f7:=hrow.2
    have hb:=HB.out.2 x (List.mem_of_getElem? hx)
    have wn:IntKind.i64.wrap (-x)=-x:=IntWalk.i64_in _ (by omega)
    have hset:=hrow.set0 k (-x)
    rw [set_mid _ _ _ _ _ hlk] at hset
    have HN:=hid (show (l.take (k+1)).map (- ·)++l.drop (k+1)=(l.take k).map (- ·)++(-x)::l.drop (k+1) by
     rw [List.take_add_one,hx];simp)
    have HSET:=hid hset
    clear hx hdk hlk hrow hset hb
    go_wp2
    go_roundg (gk - 1)
    case measure=>omega
    case rel=>exact ⟨k+1,by go_num,by omega,by omega,by rw [HN.out];exact HSET.out,by have:=HR.out.2.1;simpa using this,below_set HR.out.2.2 _ _ HH.out.1⟩
   ·have HK:=hid (show (l.take k).map (- ·)++l.drop k=l.map (- ·) by
     have:=HLL.out
     rw [List.take_of_length_le (by omega),List.drop_eq_nil_of_le (by omega)];simp)
    go_wp2
    go_ret2
    exact ⟨g,l,HH.out.1,HR.out.2.1,rfl,by rw [HT.out.1];exact HH.out.2.2.2.1,by rw [if_pos HT.out.2,←HK.out];exact HR.out.1,HR.out.2.2⟩
theorem split_any (t:Int) (n:Nat) (ws:List Nat) (v:Value) (w:World) (h:Valid w v n ws) (hpos:0<sumL ws) (ht1:-1000000000000000≤t) (ht2:t≤1000000000000000) :
  Calls Try.prog 10 #[.int .i64 t,v] w (OutP GoodD t n ws w):=by
 have HM:=hid (mirD_any t n ws v w h hpos ht1 ht2)
 clear h hpos
 go_enter Try.func10,Try.ntmps10
 go_wp2_with fail
 refine HM.out.mono ?_
 rintro e w' ⟨g,l,h1,h2,rfl,h4,h5,h6⟩
 have HH:=hid (show OutP GoodD t n ws w (.returned (.tuple #[.slice (some ⟨g,0,none⟩) n n,.int .i64 0])) w' from ⟨g,l,h1,h2,rfl,h4,h5,h6⟩)
 clear h1 h2 h4 h5 h6
 go_wp2
 go_ret2
 exact HH.out
theorem mirS_any (t:Int) (n:Nat) (ws:List Nat) (v:Value) (w:World) (h:Valid w v n ws) (hpos:0<sumL ws) (ht1:-1000000000000000≤t) (ht2:t≤1000000000000000) :
  Calls Try.prog 23 #[.int .i64 t,v,.func (.func 27) #[] #[]] w (OutP GoodS t n ws w):=by
 have q1:¬t < -1000000000000000:=by omega
 have q2:¬1000000000000000<t:=by omega
 have hsb:=h.sum
 have hn19:=h.small
 have HV:=hid h
 have HP:=hid hpos
 have hlen:=h.len
 have HLEN:=hid hlen
 clear hlen h hpos
 obtain ⟨s,hs⟩:∃ s,s=sumL ws:=⟨_,rfl⟩
 have HCK:=hid (check_ok n ws v w HV.out)
 have HD:=hid (fun T hT=>spread_good T n ws v w HV.out HP.out hT)
 rw [←hs] at HCK HD hsb
 have hs0:((s:Int)==0)=false:=beq_eq_false_iff_ne.2 (by have:=HP.out;omega)
 have HS:=hid hs
 clear hs
 by_cases ht:0≤t
 ·obtain ⟨T,rfl⟩:=Int.eq_ofNat_of_zero_le ht
  have hT:T≤1000000000000000:=by omega
  go_enter Try.func23,Try.ntmps23
  go_wp2_with (go_at_call 25;refine HCK.out.mono ?_;rintro e w' ⟨rfl,rfl⟩)
  refine (HD.out T hT).mono ?_
  rintro e w' ⟨g,l,h1,h2,rfl,h4,h5,h6⟩
  have HH:=hid (And.intro h1 (And.intro h2 (And.intro h4 (And.intro h5 h6))))
  clear h1 h2 h4 h5 h6
  go_wp2
  go_ret2
  exact ⟨g,l,HH.out.1,HH.out.2.1,rfl,by have:=HH.out.2.2.2.1;simpa using this,by rw [if_neg (by omega)];exact HH.out.2.2.1,HH.out.2.2.2.2⟩
 ·obtain ⟨T,hT0⟩:∃ T:Nat,-t=T:=⟨(-t).toNat,by omega⟩
  have hT:T≤1000000000000000:=by omega
  have hneg:IntKind.i64.wrap (-t)=(T:Int):=by rw [IntWalk.i64_in _ (by omega)];exact hT0
  have HT:=hid (show t.natAbs=T∧t<0 by omega)
  clear hT0
  go_enter Try.func23,Try.ntmps23
  go_wp2_with (go_at_call 25;refine HCK.out.mono ?_;rintro e w' ⟨rfl,rfl⟩)
  refine (HD.out T hT).mono ?_
  rintro e w' ⟨g,l,h1,h2,rfl,h4,h5,h6⟩
  have hbd:=h5.bd HP.out hT
  have HH:=hid (And.intro h1 (And.intro h2 (And.intro h4 (And.intro h5 h6))))
  have HB:=hid hbd
  have HLL:=hid (show l.length=n by rw [hbd.1];exact HLEN.out)
  clear h1 h2 h4 h5 h6 hbd
  go_wp2
  go_loopg [11,47] n (fun m iv kv wr=>∃ k:Nat,kv=.int .i64 k∧k≤n∧n≤m+k∧Row wr g 0 ((l.take k).map (- ·)++l.drop k)∧g<wr.heap.size∧Below w.heap.size w wr)
  case atStart=>exact ⟨0,rfl,by omega,by omega,by simpa using HH.out.2.2.1,HH.out.2.1,HH.out.2.2.2.2⟩
  case round =>
   obtain ⟨k,rfl,hk,hm,hrow,hsz,hbel⟩:=hrel
   have HR:=hid (And.intro hrow (And.intro hsz hbel))
   clear hrow hsz hbel
   by_cases hkn:k<n
   ·obtain ⟨x,hx⟩:∃ x,l[k]?=some x:=⟨l[k]'(by have:=HLL.out;omega),by have:=HLL.out;simp [this,hkn]⟩
    have hdk:l.drop k=x::l.drop (k+1):=by
     have hl:k<l.length:=by have:=HLL.out;omega
     rw [List.drop_eq_getElem_cons hl];congr 1
     rw [List.getElem?_eq_getElem hl] at hx;exact Option.some.inj hx
    have hlk:k=((l.take k).map (- ·)).length:=by rw [List.length_map,List.length_take];have:=HLL.out;omega
    have hrow:=HR.out.1
    rw [hdk] at hrow
    have hcx:wr.cell? ⟨g,k,none⟩=some (.int .i64 x):=by have:=hrow.1 k x (get_mid _ _ _ _ hlk);simpa using this
    have f7:=hrow.2
    have hb:=HB.out.2 x (List.mem_of_getElem? hx)
    have wn:IntKind.i64.wrap (-x)=-x:=IntWalk.i64_in _ (by omega)
    have hset:=hrow.set0 k (-x)
    rw [set_mid _ _ _ _ _ hlk] at hset
    have HN:=hid (show (l.take (k+1)).map (- ·)++l.drop (k+1)=(l.take k).map (- ·)++(-x)::l.drop (k+1) by
     rw [List.take_add_one,hx];simp)
    have HSET:=hid hset
    clear hx hdk hlk hrow hset hb
    go_wp2
    go_roundg (gk - 1)
    case measure=>omega
    case rel=>exact ⟨k+1,by go_num,by omega,by omega,by rw [HN.out];exact HSET.out,by have:=HR.out.2.1;simpa using this,below_set HR.out.2.2 _ _ HH.out.1⟩
   ·have HK:=hid (show (l.take k).map (- ·)++l.drop k=l.map (- ·) by
     have:=HLL.out
     rw [List.take_of_length_le (by omega),List.drop_eq_nil_of_le (by omega)];simp)
    go_wp2
    go_ret2
    exact ⟨g,l,HH.out.1,HR.out.2.1,rfl,by rw [HT.out.1];exact HH.out.2.2.2.1,by rw [if_pos HT.out.2,←HK.out];exact HR.out.1,HR.out.2.2⟩
theorem spread_any (t:Int) (n:Nat) (ws:List Nat) (v:Value) (w:World) (h:Valid w v n ws) (hpos:0<sumL ws) (ht1:-1000000000000000≤t) (ht2:t≤1000000000000000) :
  Calls Try.prog 12 #[.int .i64 t,v] w (OutP GoodS t n ws w):=by
 have HM:=hid (mirS_any t n ws v w h hpos ht1 ht2)
 clear h hpos
 go_enter Try.func12,Try.ntmps12
 go_wp2_with fail
 refine HM.out.mono ?_
 rintro e w' ⟨g,l,h1,h2,rfl,h4,h5,h6⟩
 have HH:=hid (show OutP GoodS t n ws w (.returned (.tuple #[.slice (some ⟨g,0,none⟩) n n,.int .i64 0])) w' from ⟨g,l,h1,h2,rfl,h4,h5,h6⟩)
 clear h1 h2 h4 h5 h6
 go_wp2
 go_ret2
 exact HH.out
end Go.Proofs.Ytnkmhbiklffjlaa
set_option maxHeartbeats 2000000
namespace Go.Proofs.Ytnkmhbiklffjlaa
open Go.RowKit Ap
open Lib (hid)
def cellsN (ws:List Nat):List Value:=ws.map (fun (x:Nat)=>Value.int .i64 (x:Int))
theorem clone_any (n:Nat) (xs:List Value) (v:Value) (w:World) (hr:Reads w 1 v n xs) (h0:1≤n) (hbig:n≤1000) (h1:∀ u∈xs,u.oneCell'=true) :
  Calls Try.prog 26 #[v] w fun e w'=>∃ v',e=.returned v'∧w'.ownsRow w.heap.size 3 1 v' n xs∧Below w.heap.size w w':=by
 obtain ⟨g,off,cap,rfl,hc⟩:=hr.some (by omega)
 have hlen:xs.length=n:=by have:=hr.1;omega
 obtain ⟨i0,hi,hz0,hz1,hz2⟩:=info_parts Try.info3
 have q22:∀ (w:World) (a:Option Addr) (n c n' c':Nat),(binOp .eql 22 (.slice a n c) (.slice none n' c')).run Try.prog w=.ok (.bool a.isNone) w:=fun w a n c n' c'=>Lib.run_eql_slice_nil w _ _ a n c n' c' Try.underlying22
 have HC:=hid hc
 have HL:=hid hlen
 have H1:=hid h1
 clear hr hc hlen h1
 go_enter Try.func26,Try.ntmps26
 go_wp2_with (at_builtin;refine wpList_append_own _ rfl _ _ 22 rfl w.heap.size 3 i0 (.int .i64 0) 1 8 Try.underlying22 hi hz0 hz1 hz2 rfl (by decide) _ _ _ rfl (World.ownsRow_made w #[] 0 (Nat.le_refl _) (Nat.zero_le _) rfl) ⟨g,off,none⟩ n cap xs rfl ?qc1 ?qc2 ?qc3 ?qc4 ?qc5 ?qc6 ?_)
 case qc1=>rw [HL.out];omega
 case qc2 =>
  intro j u hj
  have hadd:(⟨g,off,none⟩:Addr).add j=⟨g,off+j,none⟩:=by unfold Addr.add;split<;>simp_all
  rw [hadd]
  exact cell_alloc (HC.out j u hj) _
 case qc3=>exact H1.out
 case qc4=>exact small_maxLen (by omega)
 case qc5=>omega
 case qc6=>simp
 intro v' w1 hown hgrow hnil
 have HH:=hid (show w1.ownsRow w.heap.size 3 1 v' n xs by simpa using hown)
 have HG:=hid hgrow
 clear hown hgrow hnil
 go_wp2
 go_ret
 exact ⟨v',rfl,HH.out,((Below.refl _ w).alloc (Nat.le_refl _) _).grown HG.out (by simp) (by intro k hk;simp [Value.ownBlock] at hk;omega)⟩
def CapP (T n:Nat) (ws:List Nat) (w:World) (e:Ending) (w':World):Prop :=
 ∃ (v:Value) (p:List Nat),e=.returned (.tuple #[v,.int .i64 0])∧Reads w' 1 v n (cellsN p)∧Below w.heap.size w w'∧p.length=n∧((sumL ws≤T∧p=ws)∨(T<sumL ws∧Parts T ws p))
theorem reads_rowN {w:World} {g n cap:Nat} {p:List Nat} (h:Row w g 0 (p.map Int.ofNat)) (hl:p.length=n) (hn:n≤1000000):Reads w 1 (.slice (some ⟨g,0,none⟩) n cap) n (cellsN p):=by
 have:=reads_row (cap:=cap) h (by rw [List.length_map];exact hl) hn
 rw [List.map_map] at this
 exact this
theorem cap_any (T n:Nat) (ws:List Nat) (v:Value) (w:World) (h:Valid w v n ws) (hT:T≤1000000000000000) :
  Calls Try.prog 11 #[.int .i64 T,v] w (CapP T n ws w):=by
 have q1:¬(T:Int)<0:=by omega
 have q2:¬(1000000000000000:Int)<T:=by omega
 have hsb:=h.sum
 have hn19:=h.small
 have hn1:=h.pos
 have HV:=hid h
 have HCK:=hid (check_ok n ws v w h)
 clear h
 by_cases hle:sumL ws≤T
 ·obtain ⟨s,hs⟩:∃ s,s=sumL ws:=⟨_,rfl⟩
  rw [←hs] at HCK hsb hle
  have hle':(s:Int)≤T:=by omega
  have HS:=hid hs
  clear hs hle
  go_enter Try.func11,Try.ntmps11
  go_wp2_with (go_at_call 25;refine HCK.out.mono ?_;rintro e w' ⟨rfl,rfl⟩)
  refine (clone_any n (cellsN ws) v w HV.out.reads HV.out.pos (by omega) (by intro u hu;obtain ⟨x,_,rfl⟩:=List.mem_map.1 hu;rfl)).mono ?_
  rintro e w' ⟨v',rfl,hown,hb⟩
  have HH:=hid (And.intro hown hb)
  clear hown hb
  go_wp2
  go_ret2
  exact ⟨v',ws,rfl,Reads.of_own HH.out.1,HH.out.2,HV.out.len,.inl ⟨by rw [←HS.out];omega,rfl⟩⟩
 ·have HD:=hid (divide_good T n ws v w HV.out (by omega) hT)
  have HLT:=hid (show T<sumL ws by omega)
  obtain ⟨s,hs⟩:∃ s,s=sumL ws:=⟨_,rfl⟩
  rw [←hs] at HCK HD hsb hle
  have hle':¬(s:Int)≤T:=by omega
  clear hs hle
  go_enter Try.func11,Try.ntmps11
  go_wp2_with (go_at_call 25;refine HCK.out.mono ?_;rintro e w' ⟨rfl,rfl⟩)
  refine HD.out.mono ?_
  rintro e w' ⟨g,l,h1,h2,rfl,h4,⟨p,hp,rfl⟩,h6⟩
  have HH:=hid (And.intro h4 (And.intro hp h6))
  clear h1 h2 h4 hp h6
  go_wp2
  go_ret2
  have hl:p.length=n:=by obtain ⟨o,_,_,h,_⟩:=HH.out.2.1;rw [h];exact HV.out.len
  exact ⟨_,p,rfl,reads_rowN HH.out.1 hl (by omega),HH.out.2.2,hl,.inr ⟨HLT.out,HH.out.2.1⟩⟩
theorem sameints_eq (n:Nat) (l:List Int) (va vb:Value) (w:World) (ha:Reads w 1 va n (l.map (Value.int .i64))) (hb:Reads w 1 vb n (l.map (Value.int .i64))) (hn:n≤1000000) :
  Calls Try.prog 17 #[va,vb] w fun e w'=>e=.returned (.bool true)∧∃ n,w'=w.drewN n:=by
 have hlen:l.length=n:=by have:=ha.1;simpa using this
 by_cases h0:n=0
 ·obtain ⟨a,c1,rfl⟩:=ha.zero h0
  obtain ⟨b,c2,rfl⟩:=hb.zero h0
  clear ha hb
  go_enter Try.func17,Try.ntmps17
  go_wp2
  go_loopg [5] 1 (fun m iv wr=>iv=.int .i64 0∧w=wr)
  case atStart=>exact ⟨rfl,rfl⟩
  case round =>
   obtain ⟨rfl,rfl⟩:=hrel
   go_wp2
   go_ret
   exact ⟨rfl,0,by cases w;rfl⟩
 ·obtain ⟨g1,o1,c1,rfl,hc1⟩:=ha.some h0
  obtain ⟨g2,o2,c2,rfl,hc2⟩:=hb.some h0
  have HL:=hid hlen
  have H1:=hid hc1
  have H2:=hid hc2
  clear ha hb hlen hc1 hc2 h0
  go_enter Try.func17,Try.ntmps17
  go_wp2
  go_loopg [5] n (fun m iv wr=>∃ k:Nat,iv=.int .i64 k∧k≤n∧n≤m+k∧∃ q,wr=w.drewN q)
  case atStart=>exact ⟨0,rfl,by omega,by omega,0,by cases w;rfl⟩
  case round =>
   obtain ⟨k,rfl,hk,hm,q,rfl⟩:=hrel
   by_cases hkn:k<n
   ·obtain ⟨x,hx⟩:∃ x,l[k]?=some x:=⟨l[k]'(by have:=HL.out;omega),by have:=HL.out;simp [this,hkn]⟩
    have d1:w.cell? ⟨g1,o1+k,none⟩=some (.int .i64 x):=H1.out k _ (by rw [List.getElem?_map,hx];rfl)
    have d2:w.cell? ⟨g2,o2+k,none⟩=some (.int .i64 x):=H2.out k _ (by rw [List.getElem?_map,hx];rfl)
    clear hx
    go_wp2
    go_quiet (fail)
    go_wp2
    go_roundg (gk - 1)
    case measure=>omega
    case rel=>exact ⟨k+1,by go_num,by omega,by omega,_,rfl⟩
   ·go_wp2
    go_ret
    exact ⟨rfl,_,rfl⟩
end Go.Proofs.Ytnkmhbiklffjlaa
