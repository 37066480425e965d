import Derived.Test.YtooeabibhjbkoaaGreatRegC
import Derived.Test.YtooeabibhjbkoaaGreatAlB
import Derived.Test.YtooeabibhjbkoaaGreatApA
import Derived.BigQuiet
import Derived.Test.YtooeabibhjbkoaaGreatBiX
set_option linter.unusedVariables false
set_option linter.unusedSimpArgs false
set_option maxRecDepth 100000
namespace Go.Proofs.YtooeabibhjbkoaaGreat
open Go.RowKit Reg Al
namespace Ga
structure Rq where
 key:ByteArray
 units:Int
 value:Int
def Rq.cells (b:Rq):List Value:=[.string b.key,.int .i64 b.units,.int .i64 b.value]
def cellsQ (l:List Rq):List Value:=l.flatMap Rq.cells
theorem cellsQ_get (l:List Rq) (k:Nat) (b:Rq) (h:l[k]?=some b):∀ j u,b.cells[j]?=some u→(cellsQ l)[k*3+j]?=some u:=by
 induction l generalizing k with
 | nil=>simp at h
 | cons a l ih =>
  intro j u hu
  have hj:j<3:=by have:=(List.getElem?_eq_some_iff.1 hu).1;simpa [Rq.cells] using this
  cases k with
  | zero =>
   simp only [List.getElem?_cons_zero,Option.some.injEq] at h
   subst h
   rw [cellsQ,List.flatMap_cons,List.getElem?_append_left (by simp [Rq.cells];omega),Nat.zero_mul,Nat.zero_add];exact hu
  | succ k =>
   rw [cellsQ,List.flatMap_cons,List.getElem?_append_right (by simp [Rq.cells];omega)]
   have:=ih k (by simpa using h) j u hu
   rw [cellsQ] at this
   rw [←this];congr 1;simp [Rq.cells];omega
def okQ (b:Rq):Bool:=nameB b.key&&inR b.units 1 1000000000000000&&inR b.value 0 1000000000000000
def okAtQ (l:List Rq) (k:Nat):Bool:=match l[k]? with
 | some b=>okQ b&&!((l.take k).any fun c=>decide (c.key=b.key))
 | none=>true
def okLQ (l:List Rq):Bool:=(List.range l.length).all fun k=>okAtQ l k
def checkQ (l:List Rq):Bool:=decide (l.length≤64)&&okLQ l
theorem qjK {l:List Rq} (h:∀ k,k<l.length→okAtQ l k=true):okLQ l=true:=by
 unfold okLQ;rw [List.all_eq_true];intro k hk;exact h k (List.mem_range.1 hk)
theorem qcI {l:List Rq} {k:Nat} (hk:k<l.length) (h:okAtQ l k=false):okLQ l=false:=by
 unfold okLQ;rw [List.all_eq_false];exact ⟨k,List.mem_range.2 hk,by rw [h];simp⟩
theorem qyS {l:List Rq} (h:okLQ l=true) {k:Nat} (hk:k<l.length):okAtQ l k=true:=by
 unfold okLQ at h;rw [List.all_eq_true] at h;exact h k (List.mem_range.2 hk)
theorem qmN {l:List Rq} (h:checkQ l=true) {x:Rq} (hx:x∈l):1≤x.units∧x.units≤1000000000000000∧0≤x.value∧x.value≤1000000000000000:=by
 obtain ⟨k,hk⟩:=List.mem_iff_getElem?.1 hx
 unfold checkQ at h
 rw [Bool.and_eq_true] at h
 have:=qyS h.2 (List.getElem?_eq_some_iff.1 hk).1
 rw [okAtQ,hk] at this
 simp only [okQ,Bool.and_eq_true] at this
 have h1:=qgO this.1.1.2
 have h2:=qgO this.1.2
 exact ⟨h1.1,h1.2,h2.1,h2.2⟩
theorem qmO {l:List Rq} (h:checkQ l=true):l.length≤64:=by
 unfold checkQ at h;rw [Bool.and_eq_true] at h;exact of_decide_eq_true h.1
end Ga
open Ga
def RqsAt (w:World) (v:Value) (l:List Rq):Prop:=Rd w 3 v l.length (cellsQ l)
theorem RqsAt.below {w w':World} {v:Value} {l:List Rq} (h:RqsAt w v l) (hb:Below w.heap.size w w'):RqsAt w' v l:=Rd.below h hb
def QAt (w:World) (g o:Nat) (x:Rq):Prop:=w.cell? ⟨g,o,none⟩=some (.string x.key)∧w.cell? ⟨g,o+1,none⟩=some (.int .i64 x.units)∧w.cell? ⟨g,o+2,none⟩=some (.int .i64 x.value)
theorem QAt.below {w w':World} {g o:Nat} {x:Rq} (h:QAt w g o x) (hb:Below w.heap.size w w'):QAt w' g o x:=⟨qcU h.1 hb,qcU h.2.1 hb,qcU h.2.2 hb⟩
theorem qfS {w:World} {v:Value} {l:List Rq} (h:RqsAt w v l) (hn:0<l.length):∃ g off cap,v=.slice (some ⟨g,off,none⟩) l.length cap∧∀ k x,l[k]?=some x→QAt w g (off+k*3) x:=by
 obtain ⟨h1,h2,A,cap,hv,h3⟩:=h
 obtain ⟨g,off,ha,hc⟩:=h3 hn
 subst ha
 refine ⟨g,off,cap,hv,fun k x hx=>?_⟩
 have c:=cellsQ_get l k x hx
 exact ⟨hc _ _ (c 0 _ rfl),by rw [Nat.add_assoc];exact hc _ _ (c 1 _ rfl),by rw [Nat.add_assoc];exact hc _ _ (c 2 _ rfl)⟩
theorem qoK {w:World} {g off:Nat} {l:List Rq} (h:∀ k x,l[k]?=some x→QAt w g (off+k*3) x) (hn:0<l.length):g<w.heap.size:=by
 have:=(h 0 _ (List.getElem?_eq_getElem hn)).1
 exact World.block_lt_of_cell? w _ this
theorem qmT {l:List Rq} {k:Nat} (s:ByteArray):(((l.take k).map Rq.key).any fun t=>decide (t=s))=(l.take k).any fun c=>decide (c.key=s):=by
 rw [List.any_map];rfl
theorem qjL {s:ByteArray} (h:Reg.nameB s=true):s.size≤16:=by
 unfold Reg.nameB at h;simp only [Bool.and_eq_true,decide_eq_true_eq] at h;exact h.1.1.2
theorem qxL (s:ByteArray) (b:Bool) (h:Reg.nameB s=b) (w:World):Calls Tryz.prog 56 #[.string s] w fun e w'=>e=.returned (.bool b)∧Below w.heap.size w w':=by rw [←h];exact qsF s w
theorem qxH (s:ByteArray) (b:Bool) (h:Reg.nameB s=b) (w:World):Calls Tryz.prog 70 #[.string s] w fun e w'=>e=.returned (.bool b)∧Below w.heap.size w w':=by rw [←h];exact qpR s w
theorem qeZ {P:Program} {ops:Array Oper} {w:World} {Q:Act→Prop} {a:Act} {op:Oper} {rest:List Oper} {t:TypeId} {m k:Operand} {vm vk v:Value} (hgd:Region.wanted op (yielded ops a.tmps)=true) (ho:op.op=.lookup t m k false)
  (hm:a.eval m=vm) (hk:a.eval k=vk) (hl:∀ W,Below w.heap.size w W→(Instr.lookup t vm vk false).run P W=.ok v W)
  (h:wpQuiet P ops (fun w'=>∃ p:GB,w'=gw w p.d p.os) Q rest (a.put op.dst v)) :
  wpQuiet P ops (fun w'=>∃ p:GB,w'=gw w p.d p.os) Q (op::rest) a:=by
 refine wpQuiet_step (fun K hK=>?_)
 rw [if_pos hgd]
 refine ⟨v,fun W hW=>?_,hK _ h⟩
 obtain ⟨p,rfl⟩:=hW
 unfold Oper.quietAt execOp
 have:=hl _ (qbG w p.d p.os)
 simp only [ho,hm,hk,Sem.run_bind,Sem.run_pure,Result.andThen_ok,this]
 exact ⟨rfl,rfl⟩
end Go.Proofs.YtooeabibhjbkoaaGreat
namespace Go.Proofs.YtooeabibhjbkoaaGreat
open Go.RowKit Reg Al Ga
namespace Ga
structure Od where
 key:ByteArray
 nom:ByteArray
 hol:ByteArray
 fund:ByteArray
 cls:ByteArray
 kind:Int
 amount:Int
 units:Int
 at_:Int
 known:Int
 void:Bool
def Od.cells (o:Od):List Value:=[.string o.key,.string o.nom,.string o.hol,.string o.fund,.string o.cls,.int .i64 o.kind,.int .i64 o.amount,.int .i64 o.units,.int .i64 o.at_,.int .i64 o.known,.bool o.void]
structure Tk where
 o:Od
 day:Int
 first:Int
def Tk.cells (x:Tk):List Value:=[.string x.o.key,.string x.o.nom,.string x.o.hol,.string x.o.fund,.string x.o.cls,.int .i64 x.o.kind,.int .i64 x.o.amount,.int .i64 x.o.units,.int .i64 x.o.at_,.int .i64 x.o.known,.bool x.o.void,.int .i64 x.day,.int .i64 x.first]
def cellsT (l:List Tk):List Value:=l.flatMap Tk.cells
def Tk.over (x:Tk) (n next:Int):Tk:=⟨{ x.o with kind:=3,amount:=0,units:=n },next,x.first⟩
end Ga
open Ga
def TksAt (w:World) (v:Value) (l:List Tk):Prop:=Rd w 13 v l.length (cellsT l)
theorem TksAt.below {w w':World} {v:Value} {l:List Tk} (h:TksAt w v l) (hb:Below w.heap.size w w'):TksAt w' v l:=Rd.below h hb
end Go.Proofs.YtooeabibhjbkoaaGreat
set_option maxHeartbeats 2000000
namespace Go.Proofs.YtooeabibhjbkoaaGreat
open Go.RowKit Reg
open Lib (hid)
def modI (n m:Int):Int:=if m<1 then 0 else n%m
theorem qsM (n m:Int) (h:1≤m):0≤modI n m∧modI n m<m:=by
  unfold modI;rw [if_neg (by omega)];exact ⟨Int.emod_nonneg _ (by omega),Int.emod_lt_of_pos _ (by omega)⟩
theorem qmY (v n:Int) (hn:1≤n):(v.tmod n<0→v.tmod n+n=v%n)∧(¬v.tmod n<0→v.tmod n=v%n)∧-n<v.tmod n∧v.tmod n<n:=by
  have h1:=Int.emod_nonneg v (show n≠0 by omega)
  have h2:=Int.emod_lt_of_pos v (show 0<n by omega)
  have h3:=Int.tmod_eq_emod (a:=v) (b:=n)
  have h4:(n.natAbs:Int)=n:=by omega
  by_cases hd:0≤v∨n∣v
  · rw [if_pos hd] at h3
    refine ⟨fun h=>?_,fun h=>?_,?_,?_⟩<;>omega
  · rw [if_neg hd] at h3
    have h5:v%n≠0:=fun h=>hd (.inr (Int.dvd_of_emod_eq_zero h))
    refine ⟨fun h=>?_,fun h=>?_,?_,?_⟩<;>omega
theorem qsL (v n:Int) (w:World) (hn:n≤9223372036854775807) :
    Calls Tryz.prog 15 #[.int .i64 v,.int .i64 n] w fun e w'=>e=.returned (.int .i64 (modI v n))∧w=w':=by
  by_cases h1:n<1
  · have HF:=hid (show modI v n=0 by unfold modI;rw [if_pos h1])
    go_enter Tryz.func15,Tryz.ntmps15
    go_wp2
    go_ret
    exact ⟨qaT HF.out.symm,rfl⟩
  · have HF:=hid (show modI v n=v%n by unfold modI;rw [if_neg h1])
    obtain ⟨t1,t2,t3,t4⟩:=qmY v n (by omega)
    have H1:=hid t1
    have H2:=hid t2
    clear t1 t2
    have hn0:¬n=0:=by omega
    have hw:IntKind.i64.wrap (v.tmod n)=v.tmod n:=IntWalk.i64_in _ (by omega)
    go_enter Tryz.func15,Tryz.ntmps15
    by_cases c:v.tmod n<0
    · have HS:=hid (H1.out c)
      have hw2:IntKind.i64.wrap (v.tmod n+n)=v.tmod n+n:=IntWalk.i64_in _ (by omega)
      go_wp2
      go_ret
      exact ⟨qaT (by rw [HF.out,HS.out]),rfl⟩
    · have HS:=hid (H2.out c)
      go_wp2
      go_ret
      exact ⟨qaT (by rw [HF.out,HS.out]),rfl⟩
def IsTp (w:World) (bt:Nat):Prop:=∃ (at_:Nat) (a:Option Addr) (len cap:Nat),at_≤len∧w.cell? ⟨bt,0,none⟩=some (.slice a len cap)∧w.cell? ⟨bt,1,none⟩=some (.int .i64 at_)∧(∀ o,w.frozen? ⟨bt,o,none⟩=false)∧len≤9223372036854775807 ∧
  (∀ j,j<len→∃ b off v,a=some ⟨b,off,none⟩∧b<bt∧w.cell? ⟨b,off+j,none⟩=some (.int .i64 v))
theorem qgQ {a b:World} (h:Below a.heap.size a b) (row:Option Nat):a.grownBy b row:=⟨h.os,h.tape,h.output,h.size,fun k hk _=>h.block k hk⟩
theorem IsTp.lt {w:World} {bt:Nat} (h:IsTp w bt):bt<w.heap.size:=by
  obtain ⟨_,a,len,cap,_,h0,_⟩:=h
  exact World.block_lt_of_cell? w _ h0
theorem IsTp.below {w w':World} {bt:Nat} (h:IsTp w bt) (hb:Below w.heap.size w w'):IsTp w' bt:=by
  have hlt:=h.lt
  obtain ⟨at_,a,len,cap,hle,h0,h1,h2,h3,h4⟩:=h
  refine ⟨at_,a,len,cap,hle,qcU h0 hb,qcU h1 hb,fun o=>by rw [hb.frozen (p:=⟨bt,o,none⟩) hlt];exact h2 o,h3,fun j hj=>?_⟩
  obtain ⟨b,off,v,e,hne,hc⟩:=h4 j hj
  exact ⟨b,off,v,e,hne,qcU hc hb⟩
theorem IsTp.drewN {w:World} {bt:Nat} (h:IsTp w bt) (d:Nat):IsTp (w.drewN d) bt:=h
theorem IsTp.grown {w w':World} {bt:Nat} {row:Option Nat} (h:IsTp w bt) (hg:w.grownBy w' row) (hr:∀ k,row=some k→bt<k):IsTp w' bt:=by
  have hlt:=h.lt
  obtain ⟨at_,a,len,cap,hle,h0,h1,h2,h3,h4⟩:=h
  have hb:∀ b,b≤bt→w'.heap[b]?=w.heap[b]?:=fun b hb=>hg.block b (by omega) (fun e=>by have:=hr b e.symm;omega)
  refine ⟨at_,a,len,cap,hle,?_,?_,fun o=>?_,h3,fun j hj=>?_⟩
  · rw [World.cell?_of_block (w:=w) (hb bt (Nat.le_refl _))];exact h0
  · rw [World.cell?_of_block (w:=w) (hb bt (Nat.le_refl _))];exact h1
  · rw [World.frozen?_of_block (w:=w) (hb bt (Nat.le_refl _))];exact h2 o
  · obtain ⟨b,off,v,e,hne,hc⟩:=h4 j hj
    exact ⟨b,off,v,e,hne,by rw [World.cell?_of_block (w:=w) (hb b (by omega))];exact hc⟩
def Drew (w:World) (bt:Nat) (w':World):Prop:=IsTp w' bt∧w.grownBy w' (some bt)
theorem Drew.refl {w:World} {bt:Nat} (h:IsTp w bt):Drew w bt w:=⟨h,qbX _ _⟩
theorem Drew.trans {a b c:World} {bt:Nat} (h:Drew a bt b) (k:Drew b bt c):Drew a bt c:=⟨k.1,gBt h.2 k.2⟩
theorem Drew.below {a b c:World} {bt:Nat} (h:Drew a bt b) (k:Below b.heap.size b c):Drew a bt c:=⟨h.1.below k,gBt h.2 (qgQ k _)⟩
theorem Drew.cell {w w':World} {bt:Nat} {a:Addr} {v:Value} (h:Drew w bt w') (hc:w.cell? a=some v) (hne:a.block≠bt):w'.cell? a=some v:=h.2.cell hc (fun e=>by simp at e;exact hne (by rw [e]))
theorem Drew.frozen {w w':World} {bt:Nat} {a:Addr} (h:Drew w bt w') (ha:a.block<w.heap.size) (hne:a.block≠bt):w'.frozen? a=w.frozen? a :=
  World.frozen?_of_block (h.2.block _ ha (fun e=>by simp at e;exact hne e))
theorem Drew.size {w w':World} {bt:Nat} (h:Drew w bt w'):w.heap.size≤w'.heap.size:=h.2.size
theorem Drew.setCell {w w':World} {bt:Nat} (h:Drew w bt w') (hbt:bt<w.heap.size) (p:Addr) (v:Value) (hp:w.heap.size≤p.block):Drew w bt (w'.setCell p v) :=
  ⟨h.1.grown (row:=some p.block) (qaP p rfl v) (fun k hk=>by injection hk with hk;omega),
   h.2.os,h.2.tape,h.2.output,by simpa [World.setCell] using h.2.size,fun k hk hr=>(Below.heap_setCell _ _ _ _ (fun e=>by omega)).trans (h.2.block k hk hr)⟩
theorem Drew.alloc {w w':World} {bt:Nat} (h:Drew w bt w') (o:Obj):Drew w bt (w'.alloc o):=h.below ((Below.refl _ _).alloc (Nat.le_refl _) _)
theorem Drew.drewN {w w':World} {bt:Nat} (h:Drew w bt w') (d:Nat):Drew w bt (w'.drewN d):=h.below (qeN (Below.refl _ _) _)
theorem qcL (bt:Nat) (n:Int) (w:World) (ht:IsTp w bt) (hn1:1≤n) (hn:n≤9223372036854775807) :
    Calls Tryz.prog 17 #[.pointer (some ⟨bt,0,none⟩),.int .i64 n] w fun e w'=>∃ v:Int,e=.returned (.int .i64 v)∧0≤v∧v<n∧Drew w bt w':=by
  have HT:=hid ht
  obtain ⟨at_,a,len,cap,hle,h0,h1,h2,h3,h4⟩:=ht
  have hz:=h2 1
  have HZ:=hid h2
  clear h2
  by_cases hlt:at_<len
  · obtain ⟨b,off,v,rfl,hne,hc⟩:=h4 at_ hlt
    have H4:=hid h4
    have HMB:=hid (qsM v n hn1)
    have HC0:=hid h0
    have hge:decide ((len:Int)≤(at_:Int))=false:=by simp;omega
    have hw1:IntKind.i64.wrap ((at_:Int)+1)=(at_:Int)+1:=IntWalk.i64_in _ (by omega)
    have hcb:b≠bt:=by omega
    clear h4
    go_enter Tryz.func17,Tryz.ntmps17
    go_wp2
    go_quiet (fail)
    go_wp2
    have hw2:(at_:Int)+1 - 1=(at_:Int):=by omega
    have hw3:IntKind.i64.wrap (at_:Int)=(at_:Int):=IntWalk.i64_in _ (by omega)
    go_quiet ((go_at_call 15;exact (qsL _ _ _ hn).mono fun _ _ ⟨he,hw⟩=>⟨he,_,hw.symm⟩))
    go_wp2
    go_ret
    refine ⟨_,rfl,HMB.out.1,HMB.out.2,?_,qbH (gBt (qbH (qbX _ _) _) (qaP (bt:=bt) ⟨bt,1,none⟩ rfl _)) _⟩
    refine IsTp.drewN ⟨at_+1,some ⟨b,off,none⟩,len,cap,by omega,?_,?_,fun o=>?_,h3,fun j hj=>?_⟩ _
    · rw [World.cell?_setCell_other _ _ _ _ (by simp)];exact HC0.out
    · exact World.cell?_setCell_same _ _ _ h1
    · rw [World.frozen?_setCell];exact HZ.out o
    · obtain ⟨b',off',v',e,hne',hc'⟩:=H4.out j hj
      exact ⟨b',off',v',e,hne',by rw [World.cell?_setCell_other _ _ _ _ (fun e=>by injection e with e1;omega)];exact hc'⟩
  · have hlt':len≤at_:=by omega
    clear h4
    go_enter Tryz.func17,Tryz.ntmps17
    go_wp2
    go_quiet (fail)
    go_wp2
    go_ret
    exact ⟨0,rfl,by omega,by omega,HT.out.below (qeN (Below.refl _ _) _),qbH (qbX _ _) _⟩
theorem qoM (bt:Nat) (g cap n:Nat) (l:List Int) (w:World) (hn:l.length=n) (ht:IsTp w bt) (hl:0<n) (hl2:n≤1000000000) (hg:g≠bt)
    (hc:∀ j u,l[j]?=some u→w.cell? ⟨g,j,none⟩=some (.int .i64 u)) :
    Calls Tryz.prog 29 #[.pointer (some ⟨bt,0,none⟩),.slice (some ⟨g,0,none⟩) n cap] w fun e w'=>∃ s,s∈l∧e=.returned (.int .i64 s)∧Drew w bt w':=by
  have HC:=hid hc
  have HL:=hid hl
  have HN:=hid hn
  clear hc hl hn
  go_enter Tryz.func29,Tryz.ntmps29
  go_wp2_with fail
  refine (qcL bt n w ht (by have:=HL.out;omega) (by omega)).mono ?_
  rintro e w1 ⟨v,rfl,hv0,hv1,hd⟩
  obtain ⟨k,rfl⟩:∃ k:Nat,v=k:=⟨v.toNat,by omega⟩
  have hlt:k<n:=by omega
  obtain ⟨x,hx⟩:∃ x,l[k]?=some x:=⟨l[k]'(by rw [HN.out];exact hlt),by simp [HN.out,hlt]⟩
  have hc1:w1.cell? ⟨g,k,none⟩=some (.int .i64 x):=hd.cell (HC.out k x hx) hg
  have HX:=hid (List.mem_of_getElem? hx)
  have HD:=hid hd
  clear hx hd
  go_wp2
  go_ret
  exact ⟨x,HX.out,rfl,HD.out⟩
set_option maxHeartbeats 2000000
namespace Reg
end Reg
theorem quI (b o j:Nat):(⟨b,o,none⟩:Addr).add j=⟨b,o+j,none⟩:=by unfold Addr.add;split<;>simp_all
theorem qzJ (w:World) (l:List Int) (t:TypeId) (g:Nat) (hg:g=w.heap.size):∀ j u,l[j]?=some u→(w.alloc (.cells (l.map (Value.int .i64)).toArray t)).cell? ⟨g,j,none⟩=some (.int .i64 u):=by
 intro j u hu
 have:=qdQ w (l.map (Value.int .i64)) t j (.int .i64 u) (by simp [hu])
 rwa [quI,Nat.zero_add,←hg] at this
theorem qqZ (bt:Nat) (w:World) (ht:IsTp w bt) :
  Calls Tryz.prog 28 #[.pointer (some ⟨bt,0,none⟩)] w fun e w'=>∃ u:Int,e=.returned (.int .i64 u)∧1≤u∧u≤1000000∧Drew w bt w':=by
 have hbt:=ht.lt
 go_enter Tryz.func28,Tryz.ntmps28
 go_wp2_with fail
 refine (qcL bt 20 _ ht (by omega) (by omega)).mono ?_
 rintro e w1 ⟨a,rfl,ha0,ha1,hd1⟩
 have HD1:=hid hd1
 clear hd1
 go_wp2_with fail
 refine (qcL bt 1000 _ HD1.out.1 (by omega) (by omega)).mono ?_
 rintro e w2 ⟨b,rfl,hb0,hb1,hd2⟩
 have HD2:=hid (HD1.out.trans hd2)
 clear hd2
 go_wp2_with fail
 refine (qcL bt 1000000 _ HD2.out.1 (by omega) (by omega)).mono ?_
 rintro e w3 ⟨c,rfl,hc0,hc1,hd3⟩
 have HD3:=hid (HD2.out.trans hd3)
 have hz3:=hd3.size
 have hz2:=HD2.out.size
 clear hd3
 go_wp2_with fail
 have HP:=hid (qzJ w3 [1,2,3,1+a,1+b,1+c] 3 w3.heap.size rfl)
 refine (qoM bt w3.heap.size 6 6 [1,2,3,1+a,1+b,1+c] _ rfl (HD3.out.alloc _).1 (by omega) (by omega) (by omega) HP.out).mono ?_
 rintro e w4 ⟨u,hu,rfl,hd4⟩
 have HD4:=hid ((HD3.out.alloc _).trans hd4)
 have HU:=hid hu
 clear hd4 hu
 go_wp2
 go_ret
 have hu:=HU.out
 simp only [List.mem_cons,List.not_mem_nil,or_false] at hu
 exact ⟨u,rfl,by omega,by omega,HD4.out⟩
end Go.Proofs.YtooeabibhjbkoaaGreat
namespace Go.Proofs.YtooeabibhjbkoaaGreat
open Go.RowKit Reg Al Ga
namespace Ga
def keyO (i:Nat):ByteArray:=⟨#[111,UInt8.ofNat (97+i)]⟩
theorem qsV:∀ i,i<26→nameB (keyO i)=true:=by decide +kernel
theorem qvV:∀ i,i<26→∀ j,j<26→keyO i=keyO j→i=j:=by
 have h:∀ i,i<26→∀ j,j<26→(keyO i).data.toList=(keyO j).data.toList→i=j:=by decide +kernel
 intro i hi j hj e
 exact h i hi j hj (by rw [e])
theorem qzI (i:Nat) (h:i<26):(⟨#[111]⟩:ByteArray)++strOfNums [97+(i:Int)]=keyO i:=by
 have:(97+(i:Int)).toNat=97+i:=by omega
 unfold strOfNums keyO
 rw [List.map_cons,List.map_nil,this]
 rfl
structure MadeQ (i:Nat) (x:Rq):Prop where
 key:x.key=keyO i
 units:1≤x.units∧x.units≤1000000
 value:0≤x.value∧x.value≤999000000
def MadeQs (l:List Rq):Prop:=l.length≤8∧∀ k x,l[k]?=some x→MadeQ k x
theorem qsG {l:List Rq} {M V:Int} (hn:l.length≤26) (hM:M≤1000000000000000) (hV:V≤1000000000000000) (h:∀ k x,l[k]?=some x→x.key=keyO k∧1≤x.units∧x.units≤M∧0≤x.value∧x.value≤V):checkQ l=true:=by
 unfold checkQ
 rw [decide_eq_true (by omega),Bool.true_and]
 refine qjK fun k hk=>?_
 have hx:l[k]?=some l[k]:=List.getElem?_eq_getElem hk
 obtain ⟨m1,m2,m3,m4,m5⟩:=h k _ hx
 unfold okAtQ
 rw [hx]
 show (okQ l[k]&&!((l.take k).any fun c=>decide (c.key=l[k].key)))=true
 have h1:okQ l[k]=true:=by unfold okQ;rw [m1,qsV k (by omega),qxR m2 (by omega),qxR m4 (by omega)];rfl
 have h2:((l.take k).any fun c=>decide (c.key=l[k].key))=false:=by
  rw [List.any_eq_false]
  intro y hy e
  obtain ⟨j,hj⟩:=List.mem_iff_getElem?.1 hy
  have hjk:j<k:=by have:=(List.getElem?_eq_some_iff.1 hj).1;rw [List.length_take] at this;omega
  rw [List.getElem?_take_of_lt hjk] at hj
  have e2:=of_decide_eq_true e
  rw [(h j y hj).1,m1] at e2
  have:=qvV j (by omega) k (by omega) e2
  omega
 rw [h1,h2];rfl
theorem qqF {l:List Rq} (h:MadeQs l):checkQ l=true:=qsG (M:=1000000) (V:=999000000) (by have:=h.1;omega) (by decide) (by decide) fun k x hx=>by
 have:=h.2 k x hx
 exact ⟨this.key,this.units.1,this.units.2,this.value.1,this.value.2⟩
end Ga
end Go.Proofs.YtooeabibhjbkoaaGreat
set_option maxHeartbeats 8000000
namespace Go.Proofs.YtooeabibhjbkoaaGreat
open Go.RowKit Reg Al Ga
open Lib (hid)
theorem qfJ {B:Nat} {a b:World} (h:Below B a b):Below B a b.drew:=⟨h.os,h.tape,h.output,h.size,h.block⟩
theorem At.drw {w w':World} {b o bt:Nat} {cs:List Value} (h:At w b o cs) (hd:Drew w bt w') (hne:b≠bt):At w' b o cs:=by
 have hk:=hd.2.block b h.lt (fun e=>hne (by injection e))
 refine ⟨fun j v hj=>?_,fun j hj=>?_,Nat.lt_of_lt_of_le h.lt hd.2.size⟩
 ·rw [World.cell?_of_block (w:=w) hk];exact h.range j v hj
 ·rw [World.cell?_of_block (w:=w) hk,World.frozen?_of_block (w:=w) hk];exact h.there j hj
theorem At.oneSet {w:World} {O k:Nat} {cs:List Value} {v:Value} (h:At w O 0 cs) (hk:k<cs.length):At (w.setCell ⟨O,k,none⟩ v) O 0 (cs.set k v):=by
 have hc:∀ j u,(cs.set k v)[j]?=some u→(w.setCell ⟨O,k,none⟩ v).cell? ⟨O,0+j,none⟩=some u:=by
  intro j u hj
  rw [Nat.zero_add]
  by_cases e:j=k
  ·subst e
   rw [List.getElem?_set_self hk] at hj
   injection hj with hj
   subst hj
   have:=h.range j _ (List.getElem?_eq_getElem hk)
   rw [Nat.zero_add] at this
   exact World.cell?_setCell_same _ _ _ this
  ·rw [List.getElem?_set_ne (fun e2=>e e2.symm)] at hj
   rw [World.cell?_setCell_other _ _ _ _ (fun e2=>by injection e2 with e3 e4;omega)]
   have:=h.range j u hj
   rwa [Nat.zero_add] at this
 refine ⟨hc,fun j hj=>?_,by simpa [World.setCell] using h.lt⟩
 rw [hc j _ (List.getElem?_eq_getElem hj)]
 refine ⟨rfl,?_⟩
 rw [World.frozen?_setCell]
 rw [List.length_set] at hj
 exact (h.there j hj).2
theorem At.frz {w:World} {O k:Nat} {cs:List Value} (h:At w O 0 cs) (hk:k<cs.length):w.frozen? ⟨O,k,none⟩=false:=by
 have:=(h.there k hk).2
 rwa [Nat.zero_add] at this
theorem At.cel {w:World} {O k:Nat} {v:Value} {cs:List Value} (h:At w O 0 cs) (hk:cs[k]?=some v):w.cell? ⟨O,k,none⟩=some v:=by
 have:=h.range k v hk
 rwa [Nat.zero_add] at this
theorem At.allSet {w:World} {b:Nat} {cs ds:List Value} (h:At w b 0 cs) (hl:ds.length=cs.length):At (w.setCells b 0 ds) b 0 ds:=by
 have hr:=World.rangeAt_setCells_same w b 0 ds (by rw [hl];exact h.there)
 refine ⟨hr,fun j hj=>⟨?_,by rw [qcT];exact (h.there j (by omega)).2⟩,by rw [qbC];exact h.lt⟩
 rw [hr j _ (List.getElem?_eq_getElem hj)];rfl
theorem Drew.sets {w w':World} {bt b:Nat} (h:Drew w bt w') (hbt:bt<w.heap.size) (hb:w.heap.size≤b) (ds:List Value):Drew w bt (w'.setCells b 0 ds):=by
 have h2:=qaB (B:=b) (b:=b) (Nat.le_refl _) ds 0 w' (Below.refl _ _)
 have hg:w'.grownBy (w'.setCells b 0 ds) (some b):=⟨h2.os,h2.tape,h2.output,h2.size,fun k hk hr=>qfW k b (fun e=>hr (by rw [e])) ds 0 w'⟩
 exact ⟨h.1.grown hg (fun k hk=>by injection hk with hk;omega),h2.os.trans h.2.os,h2.tape.trans h.2.tape,h2.output.trans h.2.output,Nat.le_trans h.2.size h2.size,fun k hk hr=>(h2.block k (by omega)).trans (h.2.block k hk hr)⟩
theorem qwV (bt:Nat) (n:Int) (w:World) (ht:IsTp w bt) (hn1:1≤n) (hn:n≤9223372036854775807) :
  Calls Tryz.prog 43 #[.pointer (some ⟨bt,0,none⟩),.int .i64 n] w fun e w'=>∃ b:Bool,e=.returned (.bool b)∧Drew w bt w':=by
 go_enter Tryz.func43,Tryz.ntmps43
 go_wp2_with fail
 refine (qcL bt n w ht hn1 hn).mono ?_
 rintro e w1 ⟨v,rfl,hv0,hv1,hd⟩
 have HD:=hid hd
 clear hd
 go_wp2
 all_goals go_ret
 all_goals exact ⟨_,rfl,HD.out⟩
end Go.Proofs.YtooeabibhjbkoaaGreat
