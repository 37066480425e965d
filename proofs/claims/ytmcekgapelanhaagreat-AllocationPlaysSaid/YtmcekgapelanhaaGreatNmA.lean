import Derived.Test.YtmcekgapelanhaaGreatProg
import Derived.WalkKit
import Derived.Lib.Hide
import Derived.Deep.LoopGhost
import Derived.Deep.Light
import Derived.WalkSpells
import Derived.WalkLawsBesides
import Derived.Deep.RegionWith
import Derived.Deep.RegionHeld3
import Derived.Handy
import Derived.BigQuiet
set_option linter.unusedVariables false
set_option linter.unusedSimpArgs false
set_option maxHeartbeats 2000000
namespace Go.Proofs.YtmcekgapelanhaaGreat
open Go.RowKit
open Lib (hid)
theorem ret_bool {a b:Bool} (h:a=b):Ending.returned (.bool a)=.returned (.bool b):=by rw [h]
theorem ret_int {k:IntKind} {a b:Int} (h:a=b):Ending.returned (.int k a)=.returned (.int k b):=by rw [h]
theorem ownsRow_below {w w':World} {b:Nat} {e:TypeId} {size:Nat} {v:Value} {n:Nat} {xs:List Value} (h:w.ownsRow b e size v n xs) (hb:Below w.heap.size w w'):w'.ownsRow b e size v n xs :=
 h.kept (row:=none) ⟨hb.os,hb.tape,hb.output,hb.size,fun k h _=>hb.block k h⟩ (by cases v.ownBlock<;>simp)
theorem cell_alloc {w:World} {a:Addr} {v:Value} (h:w.cell? a=some v) (o:Obj):(w.alloc o).cell? a=some v:=by
 have hlt:a.block<w.heap.size:=World.block_lt_of_cell? w a h
 rw [←h]
 exact World.cell?_of_block (Below.heap_alloc w o a.block hlt)
theorem cells_new (w:World) (l:List Value) (t:TypeId):∀ j u,l[j]?=some u→(w.alloc (.cells l.toArray t)).cell? ((⟨w.heap.size,0,none⟩:Addr).add j)=some u:=by
 intro j u hu
 have hadd:(⟨w.heap.size,0,none⟩:Addr).add j=⟨w.heap.size,j,none⟩:=by unfold Addr.add;split<;>simp_all
 rw [hadd,cell_of_row _ w.heap.size j l.toArray t (0,0) (heap_alloc_new w _)]
 simpa using hu
theorem small_maxLen {n:Nat} (h:n≤1000000000):n≤maxLen:=by unfold maxLen;omega
def Reads (w:World) (size:Nat) (v:Value) (n:Nat) (xs:List Value):Prop :=
 xs.length=n*size∧n≤9223372036854775807∧((v=.slice none 0 0∧n=0)∨∃ g off cap,v=.slice (some ⟨g,off,none⟩) n cap∧∀ j u,xs[j]?=some u→w.cell? ⟨g,off+j,none⟩=some u)
theorem Reads.of_own {w:World} {b:Nat} {e:TypeId} {size:Nat} {v:Value} {n:Nat} {xs:List Value} (h:w.ownsRow b e size v n xs):Reads w size v n xs:=by
 have hc:=fun g=>h.cells (g:=g)
 obtain ⟨h1,h2⟩:=h
 refine ⟨h1,?_⟩
 rcases h2 with ⟨rfl,h2⟩|⟨g,cap,cur,hv,hg,hh,hn,hm,_⟩
 ·exact ⟨by omega,.inl ⟨rfl,h2⟩⟩
 ·refine ⟨by unfold maxLen at hm;omega,.inr ⟨g,0,cap,hv,fun j u hu=>?_⟩⟩
  have:=hc g (by rw [hv];rfl) j u hu
  have hadd:(⟨g,0,none⟩:Addr).add j=⟨g,0+j,none⟩:=by unfold Addr.add;split<;>simp_all
  rwa [hadd] at this
theorem cU {w w':World} {a:Addr} {v:Value} (h:w.cell? a=some v) (hb:Below w.heap.size w w'):w'.cell? a=some v:=by
 rw [hb.cell (World.block_lt_of_cell? w _ h)];exact h
theorem Reads.below {w w':World} {size:Nat} {v:Value} {n:Nat} {xs:List Value} (h:Reads w size v n xs) (hb:Below w.heap.size w w'):Reads w' size v n xs:=by
 obtain ⟨h1,h2,h3⟩:=h
 refine ⟨h1,h2,?_⟩
 rcases h3 with h3|⟨g,off,cap,hv,hc⟩
 ·exact .inl h3
 ·refine .inr ⟨g,off,cap,hv,fun j u hu=>?_⟩
  have h:=hc j u hu
  rw [hb.cell (World.block_lt_of_cell? w _ h)]
  exact h
theorem Reads.some {w:World} {size:Nat} {v:Value} {n:Nat} {xs:List Value} (h:Reads w size v n xs) (hn:n≠0):∃ g off cap,v=.slice (some ⟨g,off,none⟩) n cap∧∀ j u,xs[j]?=some u→w.cell? ⟨g,off+j,none⟩=some u:=by
 rcases h.2.2 with ⟨_,h⟩|h
 ·exact absurd h hn
 ·exact h
theorem Reads.zero {w:World} {size:Nat} {v:Value} {n:Nat} {xs:List Value} (h:Reads w size v n xs) (hn:n=0):∃ a cap,v=.slice a 0 cap:=by
 rcases h.2.2 with ⟨h,_⟩|⟨g,off,cap,h,_⟩
 ·exact ⟨_,_,h⟩
 ·exact ⟨_,_,by rw [h,hn]⟩
def foldI (v n:Int):Int:=if n≤1 then 0 else v%n
theorem foldI_bd (v n:Int) (h:1≤n):0≤foldI v n∧foldI v n<n:=by
 unfold foldI;split
 ·omega
 ·exact ⟨Int.emod_nonneg _ (by omega),Int.emod_lt_of_pos _ (by omega)⟩
theorem tmod_emod (v n:Int) (hn:1<n):(v.tmod n<0→v.tmod n+n=v%n)∧(¬v.tmod n<0→v.tmod n=v%n)∧-n<v.tmod n∧v.tmod n<n:=by
 have h1:=Int.emod_nonneg v (show n≠0 by omega)
 have h2:=Int.emod_lt_of_pos v (show 0<n by omega)
 have h3:=Int.tmod_eq_emod (a:=v) (b:=n)
 have h4:(n.natAbs:Int)=n:=by omega
 by_cases hd:0≤v∨n∣v
 ·rw [if_pos hd] at h3
  refine ⟨fun h=>?_,fun h=>?_,?_,?_⟩<;>omega
 ·rw [if_neg hd] at h3
  have h5:v%n≠0:=fun h=>hd (.inr (Int.dvd_of_emod_eq_zero h))
  refine ⟨fun h=>?_,fun h=>?_,?_,?_⟩<;>omega
theorem fold_any (v n:Int) (w:World) (hn:n≤9223372036854775807) :
  Calls Tryz.prog 55 #[.int .i64 v,.int .i64 n] w fun e w'=>e=.returned (.int .i64 (foldI v n))∧w=w':=by
 by_cases h1:n≤1
 ·have HF:=hid (show foldI v n=0 by unfold foldI;rw [if_pos h1])
  go_enter Tryz.func55,Tryz.ntmps55
  go_wp2
  go_ret
  exact ⟨ret_int HF.out.symm,rfl⟩
 ·have HF:=hid (show foldI v n=v%n by unfold foldI;rw [if_neg h1])
  obtain ⟨t1,t2,t3,t4⟩:=tmod_emod v n (by omega)
  have H1:=hid t1
  have H2:=hid t2
  clear t1 t2
  have hn0:¬n=0:=by omega
  have hw:IntKind.i64.wrap (v.tmod n)=v.tmod n:=IntWalk.i64_in _ (by omega)
  go_enter Tryz.func55,Tryz.ntmps55
  by_cases c:v.tmod n<0
  ·have HS:=hid (H1.out c)
   have hw2:IntKind.i64.wrap (v.tmod n+n)=v.tmod n+n:=IntWalk.i64_in _ (by omega)
   go_wp2
   go_ret
   exact ⟨ret_int (by rw [HF.out,HS.out]),rfl⟩
  ·have HS:=hid (H2.out c)
   go_wp2
   go_ret
   exact ⟨ret_int (by rw [HF.out,HS.out]),rfl⟩
def IsTape (w:World) (bt at_:Nat):Prop:=∃ a len cap,w.cell? ⟨bt,0,none⟩=some (.slice a len cap)∧w.cell? ⟨bt,1,none⟩=some (.int .i64 at_)∧(∀ o,w.frozen? ⟨bt,o,none⟩=false)∧len≤9223372036854775807 ∧
 (∀ j,j<len→∃ b off v,a=some ⟨b,off,none⟩∧b<bt∧w.cell? ⟨b,off+j,none⟩=some (.int .i64 v))
theorem grownBy_refl (w:World) (row:Option Nat):w.grownBy w row:=⟨rfl,rfl,rfl,Nat.le_refl _,fun _ _ _=>rfl⟩
theorem gBt {a b c:World} {row:Option Nat} (h:a.grownBy b row) (k:b.grownBy c row):a.grownBy c row :=
 ⟨k.os.trans h.os,k.tape.trans h.tape,k.output.trans h.output,Nat.le_trans h.size k.size,fun i hi hr=>(k.block i (Nat.lt_of_lt_of_le hi h.size) hr).trans (h.block i hi hr)⟩
theorem grownBy_drewN {a b:World} {row:Option Nat} (h:a.grownBy b row) (n:Nat):a.grownBy (b.drewN n) row:=⟨h.os,h.tape,h.output,h.size,h.block⟩
theorem grownBy_below {a b:World} (h:Below a.heap.size a b) (row:Option Nat):a.grownBy b row:=⟨h.os,h.tape,h.output,h.size,fun k hk _=>h.block k hk⟩
theorem below_grownBy {B:Nat} {a b:World} {bt:Nat} (h:a.grownBy b (some bt)) (hb:B≤bt) (hB:B≤a.heap.size):Below B a b:=⟨h.os,h.tape,h.output,h.size,fun k hk=>h.block k (by omega) (fun e=>by injection e with e;omega)⟩
theorem grownBy_setCell {w:World} {bt:Nat} (p:Addr) (hp:p.block=bt) (v:Value):w.grownBy (w.setCell p v) (some bt) :=
 ⟨rfl,rfl,rfl,by simp [World.setCell],fun k hk hr=>Below.heap_setCell _ _ _ _ (fun e=>hr (by rw [e,hp]))⟩
theorem IsTape.lt {w:World} {bt at_:Nat} (h:IsTape w bt at_):bt<w.heap.size:=by
 obtain ⟨a,len,cap,h0,_⟩:=h
 exact World.block_lt_of_cell? w _ h0
theorem IsTape.below {w w':World} {bt at_:Nat} (h:IsTape w bt at_) (hb:Below w.heap.size w w'):IsTape w' bt at_:=by
 have hlt:=h.lt
 obtain ⟨a,len,cap,h0,h1,h2,h3,h4⟩:=h
 refine ⟨a,len,cap,cU h0 hb,cU h1 hb,fun o=>by rw [hb.frozen (p:=⟨bt,o,none⟩) hlt];exact h2 o,h3,fun j hj=>?_⟩
 obtain ⟨b,off,v,e,hne,hc⟩:=h4 j hj
 exact ⟨b,off,v,e,hne,cU hc hb⟩
theorem IsTape.step {w:World} {bt at_:Nat} (h:IsTape w bt at_) (at':Nat):IsTape (w.setCell ⟨bt,1,none⟩ (.int .i64 at')) bt at':=by
 obtain ⟨a,len,cap,h0,h1,h2,h3,h4⟩:=h
 refine ⟨a,len,cap,?_,?_,fun o=>by rw [World.frozen?_setCell];exact h2 o,h3,fun j hj=>?_⟩
 ·rw [World.cell?_setCell_other _ _ _ _ (by simp)];exact h0
 ·exact World.cell?_setCell_same _ _ _ h1
 ·obtain ⟨b,off,v,e,hne,hc⟩:=h4 j hj
  exact ⟨b,off,v,e,hne,by rw [World.cell?_setCell_other _ _ _ _ (fun e=>by injection e with e1;omega)];exact hc⟩
theorem next_any (bt at_:Nat) (n:Int) (w:World) (ht:IsTape w bt at_) (hat:at_<1000000000000000000) (hn:n≤9223372036854775807) :
  Calls Tryz.prog 21 #[.pointer (some ⟨bt,0,none⟩),.int .i64 n] w fun e w'=>∃ v:Int,e=.returned (.int .i64 (foldI v n))∧IsTape w' bt (at_+1)∧w.grownBy w' (some bt):=by
 have HT:=hid ht
 obtain ⟨a,len,cap,h0,h1,h2,h3,h4⟩:=ht
 have hz:=h2 1
 clear h2
 by_cases hlt:at_<len
 ·obtain ⟨b,off,v,rfl,hne,hc⟩:=h4 at_ hlt
  clear h4
  go_enter Tryz.func21,Tryz.ntmps21
  go_wp2
  go_quiet (fail)
  go_wp2
  go_quiet (fail)
  go_wp2_with (go_at_call 55;refine (fold_any _ _ _ hn).mono ?_;rintro e w' ⟨rfl,rfl⟩)
  go_ret
  have hs:=HT.out.step (at_+1)
  refine ⟨v,rfl,?_,?_⟩
  ·exact hs.below (below_drewN (Below.refl _ _) _)
  ·exact grownBy_drewN (grownBy_setCell ⟨bt,1,none⟩ rfl _) _
 ·clear h4
  go_enter Tryz.func21,Tryz.ntmps21
  go_wp2
  go_quiet (fail)
  go_wp2_with (go_at_call 55;refine (fold_any _ _ _ hn).mono ?_;rintro e w' ⟨rfl,rfl⟩)
  go_ret
  have hs:=HT.out.step (at_+1)
  refine ⟨_,rfl,?_,?_⟩
  ·exact hs.below (below_drewN (Below.refl _ _) _)
  ·exact grownBy_drewN (grownBy_setCell ⟨bt,1,none⟩ rfl _) _
theorem IsTape.grown {w w':World} {bt at_:Nat} {row:Option Nat} (h:IsTape w bt at_) (hg:w.grownBy w' row) (hr:∀ k,row=some k→bt<k):IsTape w' bt at_:=by
 have hlt:=h.lt
 obtain ⟨a,len,cap,h0,h1,h2,h3,h4⟩:=h
 have hb:∀ b,b≤bt→w'.heap[b]?=w.heap[b]?:=fun b hb=>hg.block b (by omega) (fun e=>by have:=hr b e.symm;omega)
 refine ⟨a,len,cap,?_,?_,fun o=>?_,h3,fun j hj=>?_⟩
 ·rw [World.cell?_of_block (w:=w) (hb bt (Nat.le_refl _))];exact h0
 ·rw [World.cell?_of_block (w:=w) (hb bt (Nat.le_refl _))];exact h1
 ·rw [World.frozen?_of_block (w:=w) (hb bt (Nat.le_refl _))];exact h2 o
 ·obtain ⟨b,off,v,e,hne,hc⟩:=h4 j hj
  exact ⟨b,off,v,e,hne,by rw [World.cell?_of_block (w:=w) (hb b (by omega))];exact hc⟩
theorem pick_any (bt at_:Nat) (g cap n:Nat) (l:List Int) (w:World) (hn:l.length=n) (ht:IsTape w bt at_) (hat:at_<1000000000000000000) (hl:0<n) (hl2:n≤1000000000) (hg:g≠bt)
  (hc:∀ j u,l[j]?=some u→w.cell? ⟨g,j,none⟩=some (.int .i64 u)) :
  Calls Tryz.prog 15 #[.pointer (some ⟨bt,0,none⟩),.slice (some ⟨g,0,none⟩) n cap] w fun e w'=>∃ s,s∈l∧e=.returned (.int .i64 s)∧IsTape w' bt (at_+1)∧w.grownBy w' (some bt):=by
 have hz:((n:Int)==0)=false:=beq_eq_false_iff_ne.2 (by omega)
 have HC:=hid hc
 have HL:=hid hl
 have HN:=hid hn
 clear hc hl hn
 go_enter Tryz.func15,Tryz.ntmps15
 go_wp2_with fail
 refine (next_any bt at_ n w ht hat (by omega)).mono ?_
 rintro e w1 ⟨v,rfl,ht1,hg1⟩
 have hb:=foldI_bd v n (by have:=HL.out;omega)
 obtain ⟨k,hk⟩:∃ k:Nat,foldI v n=k:=⟨(foldI v n).toNat,by omega⟩
 rw [hk] at hb ⊢
 have hlt:k<n:=by omega
 obtain ⟨x,hx⟩:∃ x,l[k]?=some x:=⟨l[k]'(by rw [HN.out];exact hlt),by simp [HN.out,hlt]⟩
 have hc1:w1.cell? ⟨g,k,none⟩=some (.int .i64 x):=hg1.cell (HC.out k x hx) (by simpa using hg)
 have HX:=hid (List.mem_of_getElem? hx)
 clear hk hx
 go_wp2
 go_ret
 exact ⟨x,HX.out,rfl,ht1,hg1⟩
def IsRow (k:IntKind) (w:World) (a:Option Addr) (len cap:Nat) (zs:List Int):Prop :=
 (a=none∧len=0∧cap=0∧zs=[]) ∨
 ∃ x,a=some x∧len≤cap∧cap≤maxLen∧zs.length=cap∧(∀ i,i<zs.length→w.cell? (x.add i)=some (.int k (zs.getD i 0)))∧∀ n∈zs,(Lit.int k n).wf=true
theorem IsRow.tape {w:World} {a:Option Addr} {len cap:Nat} {z:List Int} (h:IsRow .i64 w a len cap z) (T:TypeId):IsTape (w.alloc (.cells #[.slice a len cap,.int .i64 0] T)) w.heap.size 0:=by
 have c0:(w.alloc (.cells #[.slice a len cap,.int .i64 0] T)).cell? ⟨w.heap.size,0,none⟩=some (.slice a len cap):=by go_cell
 have c1:(w.alloc (.cells #[.slice a len cap,.int .i64 0] T)).cell? ⟨w.heap.size,1,none⟩=some (.int .i64 0):=by go_cell
 have hz:∀ o,(w.alloc (.cells #[.slice a len cap,.int .i64 0] T)).frozen? ⟨w.heap.size,o,none⟩=false:=fun o=>by simp
 rcases h with ⟨rfl,rfl,rfl,rfl⟩|⟨x,rfl,h1,h2,h3,h4,h5⟩
 ·exact ⟨_,_,_,c0,c1,hz,by omega,fun j hj=>absurd hj (by omega)⟩
 ·refine ⟨_,_,_,c0,c1,hz,by unfold maxLen at h2;omega,fun j hj=>?_⟩
  have hc:=h4 j (by omega)
  obtain ⟨b,off,spot⟩:=x
  have h0:=h4 0 (by omega)
  have hspot:spot=none:=by simpa [Addr.add] using World.cell?_spot h0
  subst hspot
  have hadd:(⟨b,off,none⟩:Addr).add j=⟨b,off+j,none⟩:=by unfold Addr.add;split<;>simp_all
  rw [hadd] at hc
  have hlt:b<w.heap.size:=World.block_lt_of_cell? w _ hc
  exact ⟨b,off,_,rfl,by omega,cell_alloc hc _⟩
theorem ints_new (w:World) (l:List Int) (t:TypeId):∀ j u,l[j]?=some u→(w.alloc (.cells (l.map (Value.int .i64)).toArray t)).cell? ⟨w.heap.size,j,none⟩=some (.int .i64 u):=by
 intro j u hu
 rw [cell_of_row _ w.heap.size j _ t (0,0) (heap_alloc_new w _)]
 simp [hu]
theorem IsTape.alloc {w:World} {bt at_:Nat} (h:IsTape w bt at_) (o:Obj):IsTape (w.alloc o) bt at_:=h.below ((Below.refl _ _).alloc (Nat.le_refl _) _)
theorem grownBy_via {a b:World} {row:Option Nat} (h:a.grownBy b row) (o:Obj) {c:World} (k:(b.alloc o).grownBy c row):a.grownBy c row:=gBt h (gBt (World.grownBy_alloc _ _ _) k)
end Go.Proofs.YtmcekgapelanhaaGreat
set_option maxHeartbeats 1000000
namespace Go.Proofs.YtmcekgapelanhaaGreat
open Go.RowKit
open Lib (hid)
namespace Tok
def digI (n:Int):Bool:=decide (48≤n)&&decide (n≤57)
theorem drop_cons (s:ByteArray) (k:Nat) (h:k<s.size):s.data.toList.drop k=s[k]::s.data.toList.drop (k+1):=by
  rw [List.drop_eq_getElem_cons (by simpa using h)];rfl
theorem at_data (s:ByteArray) (j:Nat) (h:j<s.size):s.data.toList[j]?=some s[j]:=by
  rw [List.getElem?_eq_getElem (by simpa using h)];rfl
def digAt (s:ByteArray) (j:Nat):Bool:=match s.data.toList[j]? with|some c=>digI c.toNat|none=>false
theorem dig_is (s:ByteArray) (j:Nat) (h:j<s.size):digI s[j].toNat=digAt s j:=by
  unfold digAt;rw [at_data s j h]
end Tok
open Tok
theorem below_iter (w:World) (s:ByteArray) (k:Nat):Below w.heap.size w (w.iter s k):=(Below.refl _ _).alloc (Nat.le_refl _) _
theorem digit_any (n:Int) (w:World) :
    Calls Tryz.prog 82 #[.int .u8 n] w fun e w'=>e=.returned (.bool (digI n))∧w=w':=by
  go_enter Tryz.func82,Tryz.ntmps82
  go_wp2
  all_goals go_ret
  · have h:48≤n:=by assumption
    exact ⟨ret_bool (by simp [digI,h]),rfl⟩
  · have h:n<48:=by assumption
    exact ⟨ret_bool (by simp [digI];omega),rfl⟩
namespace Tok
def namI (n:Int):Bool:=(decide (97≤n)&&decide (n≤122)) || (decide (48≤n)&&decide (n≤57))
def namesFrom (s:ByteArray) (j:Nat):Bool:=(s.data.toList.drop j).all fun c=>namI c.toNat
def nameB (s:ByteArray):Bool:=decide (0<s.size)&&decide (s.size≤16)&&!digAt s 0&&namesFrom s 0
theorem names_go (s:ByteArray) (j:Nat) (h:j<s.size):namesFrom s j=(namI s[j].toNat&&namesFrom s (j+1)):=by
  unfold namesFrom;rw [drop_cons s j h];rfl
theorem names_end (s:ByteArray) (j:Nat) (h:¬j<s.size):namesFrom s j=true:=by
  unfold namesFrom;rw [List.drop_eq_nil_of_le (by simp;omega)];rfl
theorem namI_yes {n:Int} (h:¬((n<97∨122<n)∧(n<48∨57<n))):namI n=true:=by
  simp only [namI,Bool.or_eq_true,Bool.and_eq_true,decide_eq_true_eq];omega
theorem namI_no {n:Int} (h:(n<97∨122<n)∧(n<48∨57<n)):namI n=false:=by
  cases hh:namI n
  · rfl
  · simp only [namI,Bool.or_eq_true,Bool.and_eq_true,decide_eq_true_eq] at hh;omega
end Tok
theorem name_any (s:ByteArray) (w:World) :
    Calls Tryz.prog 46 #[.string s] w fun e w'=>e=.returned (.bool (nameB s))∧Below w.heap.size w w':=by
  have hF:=nameB.eq_1 s
  have hd:=fun h=>dig_is s 0 h
  by_cases h0:0<s.size
  · have z0:((s.size:Int)==0)=false:=beq_eq_false_iff_ne.2 (by omega)
    by_cases h1:s.size≤16
    · have z1:¬(16:Int)<s.size:=by omega
      cases h2:digAt s 0 with
      | true =>
        have HF:=hid (show nameB s=false by rw [hF,h2];simp)
        clear hF
        go_enter Tryz.func46,Tryz.ntmps46
        go_wp2_with (go_at_call 82;refine (digit_any _ _).mono ?_;rintro e w' ⟨rfl,rfl⟩)
        go_ret
        exact ⟨ret_bool HF.out.symm,Below.refl _ _⟩
      | false =>
        have HF:=hid (show nameB s=namesFrom s 0 by rw [hF,h2];simp [h0,h1])
        clear hF
        go_enter Tryz.func46,Tryz.ntmps46
        go_wp2_with (go_at_call 82;refine (digit_any _ _).mono ?_;rintro e w' ⟨rfl,rfl⟩)
        go_loopg [] (s.size) (fun n wr=>∃ k:Nat,k≤s.size∧s.size - k≤n∧wr=w.iter s k∧namesFrom s k=nameB s)
        case atStart=>exact ⟨0,Nat.zero_le _,Nat.le_refl _,rfl,HF.out.symm⟩
        case round =>
          obtain ⟨k,hk,hn,rfl,hr⟩:=hrel
          by_cases hlt:k<s.size
          · rw [names_go s k hlt] at hr
            have HR:=hid hr
            clear hr
            by_cases ha:s[k].toNat<128
            · have hnx:=fun ty=>run_next_ascii (P:=Tryz.prog) w s k ty hlt ha
              go_wp2
              all_goals first
                | (go_ret;exact ⟨ret_bool (by rw [←HR.out,namI_no (by go_light;omega)];rfl),below_iter _ _ _⟩)
                | (go_roundg (gk - 1)
                   case measure=>omega
                   case rel=>exact ⟨k+1,by omega,by omega,rfl,by rw [←HR.out,namI_yes (by go_light;omega)];simp⟩)
            · have hnx:=fun ty=>run_next_any (P:=Tryz.prog) w s k ty hlt
              have hd:=(decode_high s k hlt (by omega)).1
              have HN:=hid (show namI s[k].toNat=false from namI_no (by omega))
              generalize Utf8.decode s k=D at hnx hd
              have h5:122<(D.1:Int):=by omega
              have h6:57<(D.1:Int):=by omega
              go_wp2
              go_ret
              exact ⟨ret_bool (by rw [←HR.out,HN.out];rfl),below_iter _ _ _⟩
          · have hnx:=fun ty=>run_next_end (P:=Tryz.prog) w s k ty hlt
            rw [names_end s k hlt] at hr
            have HR:=hid hr
            clear hr
            go_wp2
            go_ret
            exact ⟨ret_bool HR.out,below_iter _ _ _⟩
    · have z1:(16:Int)<s.size:=by omega
      have HF:=hid (show nameB s=false by rw [hF];simp [h1])
      clear hF
      go_enter Tryz.func46,Tryz.ntmps46
      go_wp2
      go_ret
      exact ⟨ret_bool HF.out.symm,Below.refl _ _⟩
  · have z0:((s.size:Int)==0)=true:=beq_iff_eq.2 (by omega)
    have HF:=hid (show nameB s=false by rw [hF];simp [h0])
    clear hF
    go_enter Tryz.func46,Tryz.ntmps46
    go_wp2
    go_ret
    exact ⟨ret_bool HF.out.symm,Below.refl _ _⟩
end Go.Proofs.YtmcekgapelanhaaGreat
