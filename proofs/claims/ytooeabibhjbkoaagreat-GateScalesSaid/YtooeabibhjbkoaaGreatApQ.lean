import Derived.Test.YtooeabibhjbkoaaGreatBiX
import Derived.Test.YtooeabibhjbkoaaGreatApE
import Derived.Deep.OwnRows
import Derived.Deep.CutRange
set_option linter.unusedVariables false
set_option linter.unusedSimpArgs false
set_option maxRecDepth 100000
set_option maxHeartbeats 4000000
namespace Go.Proofs.YtooeabibhjbkoaaGreat
open Go.RowKit Ap
open Lib (hid)
theorem Tryz.info3:(Tryz.prog.info? 3).map (fun i=>(i.zero,i.size,i.bytes))=some (some (.int .i64 0),1,8):=by kernel_rfl
theorem qkK (d off n cap B:Nat) (M:List Nat) (rs:List Nat) (w:World) (hrow:Row w d off (M.map Int.ofNat)) (hd:d<w.heap.size) (hc:Cmp w B d rs)
    (hn:M.length=n) (hbig:n≤19) (hM:∀ x∈M,x<rs.length) (hlt:M.Pairwise (·<·)) :
    Calls Tryz.prog 142 #[.slice (some ⟨d,off,none⟩) n cap,.int .i64 n,.func (.func 103) #[] #[.pointer (some ⟨B,0,none⟩)]] w fun e w' =>
      e=.returned (.tuple #[])∧w.grownBy w' (some d)∧∃ M':List Nat,M'.Perm M∧M'.Pairwise (R (rs.getD · 0))∧Row w' d off (M'.map Int.ofNat):=by
  have HS:=hid (qsW d off n cap B 0 n [] M [] rs w (by simpa using hrow) hd hc rfl (by omega) (Nat.le_refl _) (by simpa using hn) (by omega) hM hlt)
  have h1:¬(20:Int)≤n:=by omega
  have h2:¬(20:Int)<n:=by omega
  clear hrow hd hc hn hM hlt
  go_enter Tryz.func142,Tryz.ntmps142
  go_wp2
  go_loopg [7,8] 1 (fun m b c wr=>b=.int .i64 0∧c=.int .i64 20∧w=wr)
  case atStart=>exact ⟨rfl,rfl,rfl⟩
  case round =>
    obtain ⟨rfl,rfl,rfl⟩:=hrel
    go_wp2_with fail
    refine HS.out.mono ?_
    rintro e w' ⟨rfl,hg,M',hp,hs,hr⟩
    have HF:=hid (And.intro hg (And.intro hp (And.intro hs hr)))
    clear hg hp hs hr
    go_wp2
    go_loopg [6,7,8,9] 1 (fun m a b c x w2=>a=.int .i64 20∧w'=w2)
    case atStart=>exact ⟨rfl,rfl⟩
    case round =>
      obtain ⟨rfl,rfl⟩:=hrel
      go_wp2
      first|go_end0|refine bodyPost_ret (results_none rfl _ _ _) rfl ?_
      exact ⟨rfl,HF.out.1,M',HF.out.2.1,HF.out.2.2.1,by have:=HF.out.2.2.2;simpa using this⟩
theorem qpN (d off n cap B:Nat) (M:List Nat) (rs:List Nat) (w:World) (hrow:Row w d off (M.map Int.ofNat)) (hd:d<w.heap.size) (hc:Cmp w B d rs)
    (hn:M.length=n) (hbig:n≤19) (hM:∀ x∈M,x<rs.length) (hlt:M.Pairwise (·<·)) :
    Calls Tryz.prog 102 #[.slice (some ⟨d,off,none⟩) n cap,.func (.func 103) #[] #[.pointer (some ⟨B,0,none⟩)]] w fun e w' =>
      e=.returned (.tuple #[])∧w.grownBy w' (some d)∧∃ M':List Nat,M'.Perm M∧M'.Pairwise (R (rs.getD · 0))∧Row w' d off (M'.map Int.ofNat):=by
  have HS:=hid (qkK d off n cap B M rs w hrow hd hc hn hbig hM hlt)
  clear hrow hd hc hn hM hlt
  go_enter Tryz.func102,Tryz.ntmps102
  go_wp2_with fail
  refine HS.out.mono ?_
  rintro e w' ⟨rfl,hF⟩
  have HF:=hid hF
  clear hF
  go_wp2
  first|go_end0|refine bodyPost_ret (results_none rfl _ _ _) rfl ?_
  exact ⟨rfl,HF.out⟩
theorem qaX (w:World) (n b:Nat) (t:TypeId) (hb:b=w.heap.size):Row (w.alloc (.cells (madeCells #[.int .i64 0] n) t)) b 0 (List.replicate n 0):=by
  subst hb
  refine ⟨fun k x hk=>?_,fun o=>by simp⟩
  have hkn:k<n:=by
    have:=(List.getElem?_eq_some_iff.1 hk).1
    simpa using this
  have hx:x=0:=by
    rw [List.getElem?_replicate] at hk
    rw [if_pos hkn] at hk
    exact (Option.some.inj hk).symm
  subst hx
  exact (World.rowIs_made w (.int .i64 0) n t).cell (by omega)
theorem Row.alloc {w:World} {d off:Nat} {l:List Int} (h:Row w d off l) (o:Obj) (hd:d<w.heap.size):Row (w.alloc o) d off l:=h.grown (World.grownBy_alloc w o none) (by simp) hd
theorem Row.setOther {w:World} {d off:Nat} {l:List Int} (h:Row w d off l) (p:Addr) (v:Value) (hp:p.block≠d):Row (w.setCell p v) d off l :=
  ⟨fun k x hk=>by rw [World.cell?_setCell_other _ _ _ _ (fun e=>hp (by first|(rw [e])|(rw [←e])))];exact h.1 k x hk,fun o=>by rw [World.frozen?_setCell];exact h.2 o⟩
theorem Row.drew {w:World} {d off:Nat} {l:List Int} (h:Row w d off l):Row w.drew d off l:=h
def Laid3 (w wx:World) (n b7 b8 b9 bR:Nat) (l7 lR l9:List Int):Prop :=
  Row wx b7 0 l7∧Row wx bR 0 lR∧Row wx b9 0 l9∧wx.cell? ⟨b8,0,none⟩=some (.slice (some ⟨bR,0,none⟩) n n)∧b7≠b8∧b7≠b9∧b7≠bR∧b8≠b9∧b8≠bR∧b9≠bR ∧
  w.heap.size≤b7∧w.heap.size≤b8∧w.heap.size≤b9∧w.heap.size≤bR∧b7<wx.heap.size∧b8<wx.heap.size∧b9<wx.heap.size∧bR<wx.heap.size∧Below w.heap.size w wx
def fillL (n:Nat) (f:Nat→Nat) (k:Nat):List Int:=(List.range n).map fun i=>if i<k then (f i:Int) else 0
theorem qdO (n:Nat) (f:Nat→Nat):fillL n f 0=List.replicate n 0:=by
  unfold fillL
  apply List.ext_getElem
  · simp
  · intro i h1 h2;simp
theorem qgS (n:Nat) (f:Nat→Nat):fillL n f n=((List.range n).map f).map Int.ofNat:=by
  unfold fillL
  rw [List.map_map]
  apply List.map_congr_left
  intro i hi
  have:i<n:=by simpa using hi
  simp [this]
theorem qeK (n:Nat) (f:Nat→Nat) (k:Nat):(fillL n f k).set k (f k:Int)=fillL n f (k+1):=by
  apply List.ext_getElem
  · simp [fillL]
  · intro i h1 h2
    rw [List.getElem_set]
    simp only [fillL,List.getElem_map,List.getElem_range]
    by_cases e:k=i
    · subst e;simp
    · rw [if_neg e]
      have:(i<k+1)↔(i<k):=by omega
      simp only [this]
theorem qcV (n:Nat) (f:Nat→Nat) (k i:Nat) (h:i<n):(fillL n f k)[i]?=some (if i<k then (f i:Int) else 0):=by
  simp [fillL,h]
theorem Row.set0 {w:World} {d:Nat} {l:List Int} (h:Row w d 0 l) (k:Nat) (x:Int):Row (w.setCell ⟨d,k,none⟩ (.int .i64 x)) d 0 (l.set k x):=by
  have:=h.set k x
  rwa [Nat.zero_add] at this
theorem qeM {B:Nat} {w w':World} (h:Below B w w') (p:Addr) (v:Value) (hp:B≤p.block):Below B w (w'.setCell p v) :=
  ⟨h.os,h.tape,h.output,by have:=h.size;simpa using this,fun k hk=>by rw [Below.heap_setCell _ _ _ _ (by omega)];exact h.block k hk⟩
section
variable {w wx:World} {n b7 b8 b9 bR:Nat} {l7 lR l9:List Int}
theorem Laid3.set7 (h:Laid3 w wx n b7 b8 b9 bR l7 lR l9) (k:Nat) (x:Int):Laid3 w (wx.setCell ⟨b7,k,none⟩ (.int .i64 x)) n b7 b8 b9 bR (l7.set k x) lR l9:=by
  obtain ⟨h1,h2,h3,h4,h5,h6,h7,h8,h9,h10,h11,h12,h13,h14,h15,h16,h17,h18,h19⟩:=h
  exact ⟨h1.set0 k x,h2.setOther _ _ h7,h3.setOther _ _ h6,by rw [World.cell?_setCell_other _ _ _ _ (fun e=>by injection e with e1 e2;omega)];exact h4,h5,h6,h7,h8,h9,h10,h11,h12,h13,h14,by simpa using h15,by simpa using h16,by simpa using h17,by simpa using h18,qeM h19 _ _ h11⟩
theorem Laid3.setR (h:Laid3 w wx n b7 b8 b9 bR l7 lR l9) (k:Nat) (x:Int):Laid3 w (wx.setCell ⟨bR,k,none⟩ (.int .i64 x)) n b7 b8 b9 bR l7 (lR.set k x) l9:=by
  obtain ⟨h1,h2,h3,h4,h5,h6,h7,h8,h9,h10,h11,h12,h13,h14,h15,h16,h17,h18,h19⟩:=h
  exact ⟨h1.setOther _ _ (fun e=>h7 e.symm),h2.set0 k x,h3.setOther _ _ (fun e=>h10 e.symm),by rw [World.cell?_setCell_other _ _ _ _ (fun e=>by injection e with e1 e2;omega)];exact h4,h5,h6,h7,h8,h9,h10,h11,h12,h13,h14,by simpa using h15,by simpa using h16,by simpa using h17,by simpa using h18,qeM h19 _ _ h14⟩
theorem Laid3.set9 (h:Laid3 w wx n b7 b8 b9 bR l7 lR l9) (k:Nat) (x:Int):Laid3 w (wx.setCell ⟨b9,k,none⟩ (.int .i64 x)) n b7 b8 b9 bR l7 lR (l9.set k x):=by
  obtain ⟨h1,h2,h3,h4,h5,h6,h7,h8,h9,h10,h11,h12,h13,h14,h15,h16,h17,h18,h19⟩:=h
  exact ⟨h1.setOther _ _ (fun e=>h6 e.symm),h2.setOther _ _ h10,h3.set0 k x,by rw [World.cell?_setCell_other _ _ _ _ (fun e=>by injection e with e1 e2;omega)];exact h4,h5,h6,h7,h8,h9,h10,h11,h12,h13,h14,by simpa using h15,by simpa using h16,by simpa using h17,by simpa using h18,qeM h19 _ _ h13⟩
theorem Laid3.drewN (h:Laid3 w wx n b7 b8 b9 bR l7 lR l9) (k:Nat):Laid3 w (wx.drewN k) n b7 b8 b9 bR l7 lR l9:=by
  obtain ⟨h1,h2,h3,h4,h5,h6,h7,h8,h9,h10,h11,h12,h13,h14,h15,h16,h17,h18,h19⟩:=h
  exact ⟨h1,h2,h3,h4,h5,h6,h7,h8,h9,h10,h11,h12,h13,h14,h15,h16,h17,h18,below_drewN h19 k⟩
theorem Laid3.drew (h:Laid3 w wx n b7 b8 b9 bR l7 lR l9):Laid3 w wx.drew n b7 b8 b9 bR l7 lR l9:=by
  obtain ⟨h1,h2,h3,h4,h5,h6,h7,h8,h9,h10,h11,h12,h13,h14,h15,h16,h17,h18,h19⟩:=h
  exact ⟨h1,h2,h3,h4,h5,h6,h7,h8,h9,h10,h11,h12,h13,h14,h15,h16,h17,h18,qaZ h19⟩
end
theorem Laid3.sorted {w wx w':World} {n b7 b8 b9 bR:Nat} {l7 lR l9 l9':List Int} (h:Laid3 w wx n b7 b8 b9 bR l7 lR l9) (hg:wx.grownBy w' (some b9)) (hr:Row w' b9 0 l9'):Laid3 w w' n b7 b8 b9 bR l7 lR l9':=by
  obtain ⟨h1,h2,h3,h4,h5,h6,h7,h8,h9,h10,h11,h12,h13,h14,h15,h16,h17,h18,h19⟩:=h
  have hs:=hg.size
  refine ⟨h1.grown hg (fun e=>h6 (Option.some.inj e).symm) h15,h2.grown hg (fun e=>h10 (Option.some.inj e)) h18,hr,?_,h5,h6,h7,h8,h9,h10,h11,h12,h13,h14,by omega,by omega,by omega,by omega,h19.trans (qgG hg h13 h19.size)⟩
  rw [World.cell?_of_block (w:=wx) (hg.block b8 h16 (fun e=>h8 (Option.some.inj e)))];exact h4
def bumpL (n:Nat) (f:Nat→Nat) (o:List Nat) (j:Nat):List Nat:=(List.range n).map fun i=>f i+if i∈o.take j then 1 else 0
theorem qqN (n:Nat) (f:Nat→Nat) (o:List Nat):bumpL n f o 0=(List.range n).map f:=by
  unfold bumpL;apply List.map_congr_left;intro i _;simp
theorem quA {n:Nat} {f:Nat→Nat} {o:List Nat} {j y:Nat} (hn:o.Nodup) (hj:o[j]?=some y) (hy:y<n):(bumpL n f o j)[y]?=some (f y):=by
  have h:y∉o.take j:=by
    intro h
    obtain ⟨i,hi,he⟩:=List.getElem_of_mem h
    have hlen:i<j:=by rw [List.length_take] at hi;omega
    have hjo:=(List.getElem?_eq_some_iff.1 hj)
    obtain ⟨hjl,hje⟩:=hjo
    rw [List.getElem_take] at he
    have:=(List.nodup_iff_pairwise_ne.1 hn)
    have hne:=(List.pairwise_iff_getElem.1 this) i j (by omega) hjl hlen
    exact hne (by rw [he,hje])
  unfold bumpL
  simp [hy,h]
theorem qtZ {n:Nat} {f:Nat→Nat} {o:List Nat} {j y:Nat} (hj:o[j]?=some y):(bumpL n f o j).set y (f y+1)=bumpL n f o (j+1):=by
  have ht:o.take (j+1)=o.take j++[y]:=by rw [List.take_add_one,hj];rfl
  apply List.ext_getElem
  · simp [bumpL]
  · intro i h1 h2
    rw [List.getElem_set]
    simp only [bumpL,List.getElem_map,List.getElem_range,ht]
    by_cases e:y=i
    · subst e;simp
    · rw [if_neg e]
      have:i∈o.take j++[y]↔i∈o.take j:=by simp;intro h;exact absurd h.symm e
      simp only [this]
theorem qqA {t n:Nat} {ws o:List Nat} (hn:ws.length=n) (hp:o.Perm (List.range n)) (ho:o.Pairwise (R (rest t ws))):Parts t ws (bumpL n (quo t ws) o (miss t ws)):=by
  subst hn
  refine ⟨o,hp,ho,by simp [bumpL],fun i hi=>?_⟩
  simp [bumpL,List.getD,hi]
theorem qdD (f:Nat→Nat) (k:Nat):sumL ((List.range (k+1)).map f)=sumL ((List.range k).map f)+f k:=by
  rw [List.range_succ,List.map_append,qfP];simp [sumL]
theorem qgX (f:Nat→Nat):∀ (n k:Nat),k≤n→sumL ((List.range k).map f)≤sumL ((List.range n).map f):=by
  intro n
  induction n with
  | zero=>intro k h;rw [Nat.le_zero.1 h];exact Nat.le_refl _
  | succ n ih =>
    intro k h
    by_cases e:k=n+1
    · rw [e];exact Nat.le_refl _
    · have:=ih k (by omega);rw [qdD];omega
theorem qqL (t s n:Nat) (ws:List Nat) (v:Value) (w:World) (hv:Reads w 1 v n (ws.map (fun (x:Nat)=>Value.int .i64 (x:Int)))) (hn:ws.length=n) (h0:1≤n) (hbig:n≤19) (hs:s=sumL ws) (hpos:0<s) (hs2:s≤4000000000000000000) (ht:t≤1000000000000000) :
    Calls Tryz.prog 65 #[.int .i64 t,v,.int .i64 s] w fun e w'=>∃ (g:Nat) (p:List Nat),w.heap.size≤g∧g<w'.heap.size∧e=.returned (.slice (some ⟨g,0,none⟩) n n)∧Row w' g 0 (p.map Int.ofNat)∧Parts t ws p∧Below w.heap.size w w':=by
  obtain ⟨gv,off,cap,rfl,hc⟩:=hv.some (by omega)
  have hmk:=run_make_row' (P:=Tryz.prog) 30 3 (.int .i64 0) 8 Tryz.underlying30 Tryz.info3 rfl .i64 .i64 n (by omega) (by omega)
  have HC:=hid hc
  have HS:=hid (And.intro hs (And.intro hpos (And.intro hs2 ht)))
  have HN:=hid hn
  clear hv hc hs hpos hs2 ht hn
  go_enter Tryz.func65,Tryz.ntmps65
  go_upto_region 1 with fail
  go_cut [7,8,9] from 14 to 22 (fun p7 p8 p9 wx=>∃ b7 b8 b9 bR:Nat,p7=.slice (some ⟨b7,0,none⟩) n n∧p8=.pointer (some ⟨b8,0,none⟩)∧p9=.slice (some ⟨b9,0,none⟩) n n∧Laid3 w wx n b7 b8 b9 bR (List.replicate n 0) (List.replicate n 0) (List.replicate n 0))
  case first =>
    go_region
    all_goals go_wp2_with fail
    all_goals go_meet
    all_goals first
     | (refine ⟨_,_,_,w.heap.size,rfl,rfl,rfl,?_⟩
        unfold Laid3
        refine ⟨?_,?_,?_,by go_cell,by omega,by omega,by omega,by omega,by omega,by omega,by omega,by omega,by omega,by omega,(by first|(simp;done)|(simp;omega)),(by first|(simp;done)|(simp;omega)),(by first|(simp;done)|(simp;omega)),(by first|(simp;done)|(simp;omega)),?_⟩
        · refine Row.drew ?_;(iterate 4 (first|done|(refine qaX _ _ _ _ ?_;(simp;done))|(refine Row.alloc ?_ _ ?hh;case hh=>(first|(simp;done)|(simp;omega)))))
        · refine Row.drew ?_;(iterate 4 (first|done|(refine qaX _ _ _ _ ?_;(simp;done))|(refine Row.alloc ?_ _ ?hh;case hh=>(first|(simp;done)|(simp;omega)))))
        · refine Row.drew ?_;(iterate 4 (first|done|(refine qaX _ _ _ _ ?_;(simp;done))|(refine Row.alloc ?_ _ ?hh;case hh=>(first|(simp;done)|(simp;omega)))))
        · refine qaZ ?_;(iterate 5 (first|done|exact Below.refl _ _|(refine Below.alloc ?_ ?hh _;case hh=>(first|(simp;done)|(simp;omega))))))
     | (refine ⟨_,_,_,(w.heap.size+1),rfl,rfl,rfl,?_⟩
        unfold Laid3
        refine ⟨?_,?_,?_,by go_cell,by omega,by omega,by omega,by omega,by omega,by omega,by omega,by omega,by omega,by omega,(by first|(simp;done)|(simp;omega)),(by first|(simp;done)|(simp;omega)),(by first|(simp;done)|(simp;omega)),(by first|(simp;done)|(simp;omega)),?_⟩
        · refine Row.drew ?_;(iterate 4 (first|done|(refine qaX _ _ _ _ ?_;(simp;done))|(refine Row.alloc ?_ _ ?hh;case hh=>(first|(simp;done)|(simp;omega)))))
        · refine Row.drew ?_;(iterate 4 (first|done|(refine qaX _ _ _ _ ?_;(simp;done))|(refine Row.alloc ?_ _ ?hh;case hh=>(first|(simp;done)|(simp;omega)))))
        · refine Row.drew ?_;(iterate 4 (first|done|(refine qaX _ _ _ _ ?_;(simp;done))|(refine Row.alloc ?_ _ ?hh;case hh=>(first|(simp;done)|(simp;omega)))))
        · refine qaZ ?_;(iterate 5 (first|done|exact Below.refl _ _|(refine Below.alloc ?_ ?hh _;case hh=>(first|(simp;done)|(simp;omega))))))
     | (refine ⟨_,_,_,(w.heap.size+1+1),rfl,rfl,rfl,?_⟩
        unfold Laid3
        refine ⟨?_,?_,?_,by go_cell,by omega,by omega,by omega,by omega,by omega,by omega,by omega,by omega,by omega,by omega,(by first|(simp;done)|(simp;omega)),(by first|(simp;done)|(simp;omega)),(by first|(simp;done)|(simp;omega)),(by first|(simp;done)|(simp;omega)),?_⟩
        · refine Row.drew ?_;(iterate 4 (first|done|(refine qaX _ _ _ _ ?_;(simp;done))|(refine Row.alloc ?_ _ ?hh;case hh=>(first|(simp;done)|(simp;omega)))))
        · refine Row.drew ?_;(iterate 4 (first|done|(refine qaX _ _ _ _ ?_;(simp;done))|(refine Row.alloc ?_ _ ?hh;case hh=>(first|(simp;done)|(simp;omega)))))
        · refine Row.drew ?_;(iterate 4 (first|done|(refine qaX _ _ _ _ ?_;(simp;done))|(refine Row.alloc ?_ _ ?hh;case hh=>(first|(simp;done)|(simp;omega)))))
        · refine qaZ ?_;(iterate 5 (first|done|exact Below.refl _ _|(refine Below.alloc ?_ ?hh _;case hh=>(first|(simp;done)|(simp;omega))))))
     | (refine ⟨_,_,_,(w.heap.size+1+1+1),rfl,rfl,rfl,?_⟩
        unfold Laid3
        refine ⟨?_,?_,?_,by go_cell,by omega,by omega,by omega,by omega,by omega,by omega,by omega,by omega,by omega,by omega,(by first|(simp;done)|(simp;omega)),(by first|(simp;done)|(simp;omega)),(by first|(simp;done)|(simp;omega)),(by first|(simp;done)|(simp;omega)),?_⟩
        · refine Row.drew ?_;(iterate 4 (first|done|(refine qaX _ _ _ _ ?_;(simp;done))|(refine Row.alloc ?_ _ ?hh;case hh=>(first|(simp;done)|(simp;omega)))))
        · refine Row.drew ?_;(iterate 4 (first|done|(refine qaX _ _ _ _ ?_;(simp;done))|(refine Row.alloc ?_ _ ?hh;case hh=>(first|(simp;done)|(simp;omega)))))
        · refine Row.drew ?_;(iterate 4 (first|done|(refine qaX _ _ _ _ ?_;(simp;done))|(refine Row.alloc ?_ _ ?hh;case hh=>(first|(simp;done)|(simp;omega)))))
        · refine qaZ ?_;(iterate 5 (first|done|exact Below.refl _ _|(refine Below.alloc ?_ ?hh _;case hh=>(first|(simp;done)|(simp;omega))))))
  case rest =>
    obtain ⟨b7,b8,b9,bR,rfl,rfl,rfl,hlaid⟩:=hcut
    have HL0:=hid hlaid
    clear hlaid
    go_wp2
    go_loopg [10,11,12,26] n (fun m mv iv xv kv wr=>∃ (k:Nat),kv=.int .i64 k∧k≤n∧n≤m+k∧mv=.int .i64 ((t - sumL ((List.range k).map (quo t ws)):Nat):Int)∧Laid3 w wr n b7 b8 b9 bR (fillL n (quo t ws) k) (fillL n (rest t ws) k) (fillL n id k))
    case atStart=>exact ⟨0,rfl,by omega,by omega,by simp [sumL],by rw [qdO,qdO,qdO];exact HL0.out⟩
    case round =>
      obtain ⟨k,rfl,hk,hm,rfl,hlaid⟩:=hrel
      have HL:=hid hlaid
      clear hlaid
      by_cases hkn:k<n
      · obtain ⟨x,hx⟩:∃ x,x=ws.getD k 0:=⟨_,rfl⟩
        have hxl:ws[k]?=some x:=by rw [hx];have:=HN.out;simp [List.getD,this,hkn]
        have hgv:gv<w.heap.size:=World.block_lt_of_cell? w _ (HC.out k (.int .i64 (x:Int)) (by simp [hxl]))
        have hcx:wr.cell? ⟨gv,off+k,none⟩=some (.int .i64 (x:Int)):=by
          rw [HL.out.2.2.2.2.2.2.2.2.2.2.2.2.2.2.2.2.2.2.cell (p:=⟨gv,off+k,none⟩) hgv]
          exact HC.out k _ (by simp [hxl])
        have hxs:x≤s:=by have:=HS.out.1;rw [this];exact qeP (List.mem_of_getElem? hxl)
        have hsh:=fun w2=>qrG t x s w2 HS.out.2.2.2 hxs HS.out.2.1 HS.out.2.2.1
        have eq1:t*x / s=quo t ws k:=by unfold quo;rw [HS.out.1,hx]
        have eq2:t*x%s=rest t ws k:=by unfold rest;rw [HS.out.1,hx]
        rw [eq1,eq2] at hsh
        have HSH:=hid hsh
        have c7:wr.cell? ⟨b7,k,none⟩=some (.int .i64 0):=by have:=HL.out.1.1 k 0 (by rw [qcV _ _ _ _ hkn];simp);simpa using this
        have cR:wr.cell? ⟨bR,k,none⟩=some (.int .i64 0):=by have:=HL.out.2.1.1 k 0 (by rw [qcV _ _ _ _ hkn];simp);simpa using this
        have c9:wr.cell? ⟨b9,k,none⟩=some (.int .i64 0):=by have:=HL.out.2.2.1.1 k 0 (by rw [qcV _ _ _ _ hkn];simp);simpa using this
        have c8:=HL.out.2.2.2.1
        have f7:=HL.out.1.2
        have fR:=HL.out.2.1.2
        have f9:=HL.out.2.2.1.2
        have n7R:¬b7=bR:=HL.out.2.2.2.2.2.2.1
        have n8R:¬b8=bR:=HL.out.2.2.2.2.2.2.2.2.1
        have n78:¬b7=b8:=HL.out.2.2.2.2.1
        clear hsh hx hxl hgv hxs eq1 eq2
        obtain ⟨qk,hqk⟩:∃ qk,qk=quo t ws k:=⟨_,rfl⟩
        obtain ⟨rk,hrk⟩:∃ rk,rk=rest t ws k:=⟨_,rfl⟩
        rw [←hqk,←hrk] at HSH
        have HQ:=hid (And.intro hqk hrk)
        clear hqk hrk
        go_upto_region 6 with fail
        go_cut [26] from 26 to 54 (fun kv wx=>kv=.int .i64 k∧Laid3 w wx n b7 b8 b9 bR (fillL n (quo t ws) (k+1)) (fillL n (rest t ws) (k+1)) (fillL n id k))
        case first =>
          go_region_with (refine (HSH.out _).mono ?_;rintro e w' ⟨rfl,nn,rfl⟩)
          all_goals go_wp2_with fail
          all_goals go_meet
          all_goals
            refine ⟨rfl,?_⟩
            have h:=((HL.out.drewN (1+nn)).set7 k (qk:Int)).setR k (rk:Int)
            rw [HQ.out.1,HQ.out.2,qeK,qeK] at h
            rw [HQ.out.1,HQ.out.2]
            exact h
        case rest =>
          obtain ⟨rfl,hl2⟩:=hcut
          have HL2:=hid hl2
          clear hl2 c7 cR c9 c8 f7 fR f9 HL
          have c7:wc.cell? ⟨b7,k,none⟩=some (.int .i64 (qk:Int)):=by
            have:=HL2.out.1.1 k (qk:Int) (by rw [qcV _ _ _ _ hkn,HQ.out.1];simp);simpa using this
          have c9:wc.cell? ⟨b9,k,none⟩=some (.int .i64 0):=by have:=HL2.out.2.2.1.1 k 0 (by rw [qcV _ _ _ _ hkn];simp);simpa using this
          have f9:=HL2.out.2.2.1.2
          obtain ⟨M,hM⟩:∃ M,M=t - sumL ((List.range k).map (quo t ws)):=⟨_,rfl⟩
          obtain ⟨M2,hM2⟩:∃ M2,M2=t - sumL ((List.range (k+1)).map (quo t ws)):=⟨_,rfl⟩
          have hMM:M=M2+qk∧M≤1000000000000000:=by
            have h1:=qdD (quo t ws) k
            have h2:=qgX (quo t ws) n (k+1) (by omega)
            have h3:=(qfH t ws (by have:=HS.out;omega)).1
            rw [HN.out] at h3
            have:=HQ.out.1
            have:=HS.out
            omega
          rw [←hM]
          have w1:IntKind.i64.wrap ((M:Int) - (qk:Int))=(M2:Int):=by rw [IntWalk.i64_in _ (by omega)];omega
          have HMM:=hid (And.intro hM2 hMM)
          clear hM hM2 hMM
          go_wp2
          go_roundg (gk - 1)
          case measure=>omega
          case rel =>
            refine ⟨k+1,by go_num,by omega,by omega,by rw [←HMM.out.1],?_⟩
            have h:=HL2.out.set9 k ((id k:Nat):Int)
            rw [qeK] at h
            exact h
      · have hk2:k=n:=by omega
        subst hk2
        rw [qgS,qgS,qgS] at HL
        have hmf:∀ (fn:Fn) (first cap:Array Value) (w:World),(Instr.makeFunc fn first cap).run Tryz.prog w=.ok (.func fn first cap) w:=fun _ _ _ _=>rfl
        have hl:=HL.out
        have hcm:Cmp wr b8 b9 ((List.range k).map (rest t ws)):=⟨bR,0,k,k,hl.2.2.2.1,by simp,fun i x hi=>hl.2.1.1 i x (by rw [List.getElem?_map,hi];rfl),hl.2.2.2.2.2.2.2.1,fun e=>hl.2.2.2.2.2.2.2.2.2.1 e.symm,hl.2.2.2.2.2.2.2.2.2.2.2.2.2.2.2.1,hl.2.2.2.2.2.2.2.2.2.2.2.2.2.2.2.2.2.1,fun x hx=>by
          obtain ⟨i,_,rfl⟩:=List.mem_map.1 hx
          have:=qnE t ws (by have:=HS.out;omega) i
          have:=HS.out
          omega⟩
        have hsort:=qpN b9 0 k k b8 (List.range k) ((List.range k).map (rest t ws)) wr (by have:=hl.2.2.1;simpa using this) hl.2.2.2.2.2.2.2.2.2.2.2.2.2.2.2.2.1 hcm (by simp) hbig (by simp) (List.pairwise_lt_range)
        have HSO:=hid hsort
        clear hl hcm hsort
        obtain ⟨M,hM⟩:∃ M,M=t - sumL ((List.range k).map (quo t ws)):=⟨_,rfl⟩
        have hM1:M=miss t ws∧M≤k:=by
          have e:M=miss t ws:=by rw [hM];unfold miss;rw [HN.out]
          refine ⟨e,?_⟩
          have:=qnJ t ws (by have:=HS.out;omega)
          rw [HN.out] at this;omega
        rw [←hM]
        have HM:=hid hM1
        clear hM hM1
        go_wp2_with fail
        refine HSO.out.mono ?_
        rintro e w' ⟨rfl,hg,o,hp,ho,hrow⟩
        have hl2:=HL.out.sorted hg hrow
        have ho2:o.Pairwise (R (rest t ws)):=by
          refine List.Pairwise.imp_of_mem ?_ ho
          intro a b ha hb hab
          have ha2:a<k:=by have:=hp.subset ha;simpa using this
          have hb2:b<k:=by have:=hp.subset hb;simpa using this
          unfold R at *
          simpa [List.getD,ha2,hb2] using hab
        have HO:=hid (And.intro hp ho2)
        have HL2:=hid hl2
        clear hg hp ho hrow hl2 ho2 HSO
        go_wp2
        go_loopg [13,59] M (fun m iv jv wr=>∃ (j:Nat),jv=.int .i64 j∧j≤M∧M≤m+j∧Laid3 w wr k b7 b8 b9 bR ((bumpL k (quo t ws) o j).map Int.ofNat) (((List.range k).map (rest t ws)).map Int.ofNat) (o.map Int.ofNat))
        case atStart=>exact ⟨0,rfl,by omega,by omega,by rw [qqN];exact HL2.out⟩
        case round =>
          obtain ⟨j,rfl,hj,hm2,hl3⟩:=hrel
          have HL3:=hid hl3
          clear hl3
          by_cases hjm:j<M
          · have hol:o.length=k:=by rw [HO.out.1.length_eq,List.length_range]
            have hjk:j<k:=by have:=HM.out;omega
            obtain ⟨y,hy⟩:∃ y,o[j]?=some y:=⟨o[j]'(by omega),by simp [hol,hjk]⟩
            have hyk:y<k:=by have:=HO.out.1.subset (List.mem_of_getElem? hy);simpa using this
            have hnd:o.Nodup:=HO.out.1.nodup_iff.2 List.nodup_range
            have hget:=quA (f:=quo t ws) hnd hy hyk
            have c9:wr.cell? ⟨b9,j,none⟩=some (.int .i64 (y:Int)):=by have:=HL3.out.2.2.1.1 j (y:Int) (by rw [List.getElem?_map,hy];rfl);simpa using this
            obtain ⟨qy,hqy⟩:∃ qy,qy=quo t ws y:=⟨_,rfl⟩
            rw [←hqy] at hget
            have c7:wr.cell? ⟨b7,y,none⟩=some (.int .i64 (qy:Int)):=by have:=HL3.out.1.1 y (qy:Int) (by rw [List.getElem?_map,hget];rfl);simpa using this
            have f7:=HL3.out.1.2
            have hqb:qy≤1000000000000000:=by
              have h1:=(qfH t ws (by have:=HS.out;omega)).1
              have h2:qy≤sumL ((List.range ws.length).map (quo t ws)):=by rw [hqy];exact qeP (List.mem_map.2 ⟨y,by rw [HN.out];simpa using hyk,rfl⟩)
              have:=HS.out
              omega
            have HY:=hid (And.intro hy hqy)
            clear hy hqy hget hnd hol
            go_wp2
            go_roundg (gk - 1)
            case measure=>omega
            case rel =>
              refine ⟨j+1,by go_num,by omega,by omega,?_⟩
              have h:=HL3.out.set7 y (Int.ofNat (qy+1))
              rw [←List.map_set,HY.out.2,qtZ HY.out.1,←HY.out.2] at h
              exact h
          · have hjM:j=M:=by omega
            subst hjM
            go_wp2
            go_ret
            have h:=HL3.out
            exact ⟨b7,_,h.2.2.2.2.2.2.2.2.2.2.1,h.2.2.2.2.2.2.2.2.2.2.2.2.2.2.1,rfl,h.1,by have:=qqA (t:=t) HN.out HO.out.1 HO.out.2;rw [←HM.out.1] at this;exact this,h.2.2.2.2.2.2.2.2.2.2.2.2.2.2.2.2.2.2⟩
end Go.Proofs.YtooeabibhjbkoaaGreat
namespace Go.Proofs.YtooeabibhjbkoaaGreat
open Go.RowKit Ap
theorem qtT (ws:List Nat) (hall:∀ x∈ws,x≤1000000000000000):∀ a:Int,checkL (ws.map Int.ofNat) a=some (a+(sumL ws:Nat)):=by
 induction ws with
 | nil=>intro a;simp [checkL,sumL]
 | cons x ws ih =>
  intro a
  have hx:=hall x (by simp)
  simp only [List.map_cons,checkL]
  rw [if_neg (by simp;omega),ih (fun y hy=>hall y (by simp [hy]))]
  simp only [sumL]
  congr 1
  simp;omega
structure Valid (w:World) (v:Value) (n:Nat) (ws:List Nat):Prop where
 reads:Reads w 1 v n (ws.map (fun (x:Nat)=>Value.int .i64 (x:Int)))
 len:ws.length=n
 pos:1≤n
 small:n≤19
 all:∀ x∈ws,x≤1000000000000000
theorem Valid.below {w w':World} {v:Value} {n:Nat} {ws:List Nat} (h:Valid w v n ws) (hb:Below w.heap.size w w'):Valid w' v n ws:=⟨h.reads.below hb,h.len,h.pos,h.small,h.all⟩
theorem Valid.sum {w:World} {v:Value} {n:Nat} {ws:List Nat} (h:Valid w v n ws):sumL ws≤19000000000000000:=by
 have:=qnA h.all
 have:=h.len
 have:=h.small
 have:ws.length*1000000000000000≤19*1000000000000000:=Nat.mul_le_mul_right _ (by omega)
 omega
theorem qwO (n:Nat) (ws:List Nat) (v:Value) (w:World) (h:Valid w v n ws) :
  Calls Tryz.prog 63 #[v] w fun e w'=>e=.returned (.tuple #[.int .i64 (sumL ws:Nat),.int .i64 0])∧w=w':=by
 have hr:Reads w 1 v (ws.map Int.ofNat).length ((ws.map Int.ofNat).map (Value.int .i64)):=by
  have:=h.reads
  rw [List.length_map,h.len,List.map_map];exact this
 have he:checkR (ws.map Int.ofNat)=(((sumL ws:Nat):Int),(0:Int)):=by
  unfold checkR
  rw [List.length_map,h.len,if_neg (by have:=h.pos;have:=h.small;omega),qtT ws h.all]
  simp
 have:=qtS (ws.map Int.ofNat) v w hr
 rw [he] at this
 exact this
def GoodD (t:Nat) (ws:List Nat) (l:List Int):Prop:=∃ p,Parts t ws p∧l=p.map Int.ofNat
def GoodS (t:Nat) (ws:List Nat) (l:List Int):Prop:=l=spreadL t (sumL ws) 0 0 ws
theorem GoodD.bd {t:Nat} {ws:List Nat} {l:List Int} (h:GoodD t ws l) (hs:0<sumL ws) (ht:t≤1000000000000000):l.length=ws.length∧∀ x∈l,-10000000000000000≤x∧x≤10000000000000000:=by
 obtain ⟨p,hp,rfl⟩:=h
 have hsum:=qkV hs hp
 obtain ⟨o,_,_,hl,_⟩:=hp
 refine ⟨by simp [hl],fun x hx=>?_⟩
 obtain ⟨y,hy,rfl⟩:=List.mem_map.1 hx
 have:=qeP hy
 constructor
 ·have:(0:Int)≤Int.ofNat y:=Int.natCast_nonneg y
  omega
 ·show (y:Int)≤_
  omega
theorem jaN (t s c:Nat) (hc:c≤s) (hs:0<s):rnd t s c≤t+1:=by
 have h:=(jaM t s c).2
 have:t*c / s≤t:=Nat.div_le_of_le_mul (by rw [Nat.mul_comm s];exact Nat.mul_le_mul_left _ hc)
 omega
theorem qpM (t s:Nat) (hs:0<s) (ht:t≤1000000000000000):∀ (ws:List Nat) (b c:Nat),c+sumL ws≤s→b≤1000000000000001→∀ x∈spreadL t s b c ws,-10000000000000000≤x∧x≤10000000000000000:=by
 intro ws
 induction ws with
 | nil=>intro b c _ _ x hx;simp [spreadL] at hx
 | cons w ws ih =>
  intro b c hc hb x hx
  simp only [sumL] at hc
  have h1:=jaN t s (c+w) (by omega) hs
  rcases List.mem_cons.1 hx with rfl|hx
  ·omega
  ·exact ih _ _ (by omega) (by omega) x hx
theorem GoodS.bd {t:Nat} {ws:List Nat} {l:List Int} (h:GoodS t ws l) (hs:0<sumL ws) (ht:t≤1000000000000000):l.length=ws.length∧∀ x∈l,-10000000000000000≤x∧x≤10000000000000000:=by
 unfold GoodS at h
 subst h
 exact ⟨qpL _ _ _ _ _,qpM t _ hs ht ws 0 0 (by omega) (by omega)⟩
theorem qkS {w:World} {g n cap:Nat} {l:List Int} (h:Row w g 0 l) (hl:l.length=n) (hn:n≤1000000):Reads w 1 (.slice (some ⟨g,0,none⟩) n cap) n (l.map (Value.int .i64)):=by
 refine ⟨by simp [hl],by omega,.inr ⟨g,0,cap,rfl,fun j u hu=>?_⟩⟩
 rw [List.getElem?_map] at hu
 cases hx:l[j]? with
 | none=>rw [hx] at hu;simp at hu
 | some x =>
  rw [hx] at hu
  have:u=.int .i64 x:=by simpa using hu.symm
  rw [this];exact h.1 j x hx
theorem qnP (t n:Nat) (ws:List Nat) (v:Value) (w:World) (h:Valid w v n ws) (hpos:0<sumL ws) (ht:t≤1000000000000000) :
  Calls Tryz.prog 65 #[.int .i64 t,v,.int .i64 (sumL ws:Nat)] w fun e w'=>∃ (g:Nat) (l:List Int),w.heap.size≤g∧g<w'.heap.size∧e=.returned (.slice (some ⟨g,0,none⟩) n n)∧Row w' g 0 l∧GoodD t ws l∧Below w.heap.size w w':=by
 refine (qqL t (sumL ws) n ws v w h.reads h.len h.pos h.small rfl hpos (by have:=h.sum;omega) ht).mono ?_
 rintro e w' ⟨g,p,h1,h2,h3,h4,h5,h6⟩
 exact ⟨g,_,h1,h2,h3,h4,⟨p,h5,rfl⟩,h6⟩
end Go.Proofs.YtooeabibhjbkoaaGreat
