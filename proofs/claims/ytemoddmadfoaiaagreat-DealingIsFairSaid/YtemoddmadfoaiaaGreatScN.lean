import Derived.Test.YtemoddmadfoaiaaGreatProg
import Derived.Test.YtemoddmadfoaiaaGreatRegQ
import Derived.WalkKit
import Derived.Lib.Hide
import Derived.Deep.LoopGhost
import Derived.Deep.Light
import Derived.WalkSpells
import Derived.WalkLawsBesides
import Derived.Deep.RegionWith
import Derived.Deep.RegionHeld3
import Derived.Deep.CutRange
import Derived.StillTailTactics
import Derived.Handy
import Derived.BigQuiet
set_option linter.unusedVariables false
set_option linter.unusedSimpArgs false
set_option maxRecDepth 100000
namespace Go.Proofs.YtemoddmadfoaiaaGreat
open Go.RowKit
theorem qaI {a b:Bool} (h:a=b):Ending.returned (.bool a)=.returned (.bool b):=by rw [h]
theorem qaK {k:IntKind} {a b:Int} (h:a=b):Ending.returned (.int k a)=.returned (.int k b):=by rw [h]
theorem qfJ {a b c d:Int} (h:a=c) (g:b=d):Ending.returned (.tuple #[.int .i64 a,.int .i64 b])=.returned (.tuple #[.int .i64 c,.int .i64 d]):=by rw [h,g]
theorem qoK {w:World} {b b':Nat} {e:TypeId} {size:Nat} {v:Value} {n:Nat} {xs:List Value} (h:w.ownsRow b e size v n xs) (hb:b'≤b):w.ownsRow b' e size v n xs:=by
 obtain ⟨h1,h2⟩:=h;refine ⟨h1,?_⟩;rcases h2 with h2|⟨g,cap,cur,hv,hg,r⟩
 ·exact .inl h2
 ·exact .inr ⟨g,cap,cur,hv,Nat.le_trans hb hg,r⟩
theorem qmF {w w':World} {b:Nat} {e:TypeId} {size:Nat} {v:Value} {n:Nat} {xs:List Value} (h:w.ownsRow b e size v n xs) (hb:Below w.heap.size w w'):w'.ownsRow b e size v n xs :=
 h.kept (row:=none) ⟨hb.os,hb.tape,hb.output,hb.size,fun k h _=>hb.block k h⟩ (by cases v.ownBlock<;>simp)
theorem qcW {w:World} {a:Addr} {v:Value} (h:w.cell? a=some v) (o:Obj):(w.alloc o).cell? a=some v:=by
 have hlt:a.block<w.heap.size:=World.block_lt_of_cell? w a h;rw [←h];exact World.cell?_of_block (Below.heap_alloc w o a.block hlt)
theorem qfD (w:World) (l:List Value) (t:TypeId):∀ j u,l[j]?=some u→(w.alloc (.cells l.toArray t)).cell? ((⟨w.heap.size,0,none⟩:Addr).add j)=some u:=by
 intro j u hu;have hadd:(⟨w.heap.size,0,none⟩:Addr).add j=⟨w.heap.size,j,none⟩:=by unfold Addr.add;split<;>simp_all
 rw [hadd,cell_of_row _ w.heap.size j l.toArray t (0,0) (heap_alloc_new w _)]
 simpa using hu
theorem qbS {n:Nat} (h:n≤1000000000):n≤maxLen:=by unfold maxLen;omega
theorem qiX {P:Program} {ops:Array Oper} {o:Oper} {a:Act} {w:World} {K:Act→World→Prop} {Q:Exit→Act→World→Prop} {E:Prop} (hgd:o.guard=none) (s x:Operand) (t:TypeId)
  (ho:o.op=.call { callee:=.builtin .append,args:=#[s,x],argTypes:=#[t,t] })
  (base:Nat) (e:TypeId) (i:TypeInfo) (z:Value) (size bytes:Nat) (ht:P.underlying t=some (.slice e)) (hi:P.info? e=some i) (hz:i.zero=some z)
  (hsize:i.size=size) (hby:i.bytes=bytes) (hzs:z.cells.size=size) (hsz:0<size)
  (v:Value) (n:Nat) (xs:List Value) (hs:a.eval s=v) (hown:w.ownsRow base e size v n xs)
  (ad:Addr) (m c:Nat) (news:List Value) (hx:a.eval x=.slice (some ad) m c) (hl:news.length=m*size) (hnews:∀ j u,news[j]?=some u→w.cell? (ad.add j)=some u) (h1:∀ u∈news,u.oneCell'=true)
  (h63:n+m≤maxLen) (hbytes:(n+m)*bytes≤140737488355328) (hbase:base≤w.heap.size)
  (h:∀ v' w',w'.ownsRow base e size v' (n+m) (xs++news)→w.grownBy w' v.ownBlock→(v'=.slice none 0 0↔v=.slice none 0 0∧m=0)→K (a.put o.dst v') w') :
  if Region.wanted o (yielded ops a.tmps)=true then Oper.wp P o a w K Q else E:=by
 rw [if_pos (by simp [Region.wanted,hgd])];exact wp_append_own w s x t ho base e i z size bytes ht hi hz hsize hby hzs hsz v n xs hs hown ad m c news hx hl hnews h1 h63 hbytes hbase h
theorem quB {w:World} {a:Addr} {v:Option Value} (h:w.cell? a=v):World.cell? { heap:=w.heap,tape:=w.tape,drawn:=w.drawn+1,os:=w.os,output:=w.output } a=v:=h
theorem qcU {w w':World} {a:Addr} {v:Value} (h:w.cell? a=some v) (hb:Below w.heap.size w w'):w'.cell? a=some v:=by
 rw [hb.cell (World.block_lt_of_cell? w _ h)];exact h
def Rd (w:World) (size:Nat) (v:Value) (n:Nat) (xs:List Value):Prop :=
 xs.length=n*size∧n≤9223372036854775807∧∃ A cap,v=.slice A n cap∧(0<n→∃ g off,A=some ⟨g,off,none⟩∧∀ j u,xs[j]?=some u→w.cell? ⟨g,off+j,none⟩=some u)
theorem Rd.of_own {w:World} {b:Nat} {e:TypeId} {size:Nat} {v:Value} {n:Nat} {xs:List Value} (h:w.ownsRow b e size v n xs):Rd w size v n xs:=by
 have hc:=fun g=>h.cells (g:=g)
 obtain ⟨h1,h2⟩:=h;refine ⟨h1,?_⟩;rcases h2 with ⟨rfl,h2⟩|⟨g,cap,cur,hv,hg,hh,hn,hm,_⟩
 ·exact ⟨by omega,none,0,by rw [h2],fun h=>absurd h (by omega)⟩
 ·refine ⟨by unfold maxLen at hm;omega,_,cap,hv,fun _=>⟨g,0,rfl,fun j u hu=>?_⟩⟩
  have:=hc g (by rw [hv];rfl) j u hu
  have hadd:(⟨g,0,none⟩:Addr).add j=⟨g,0+j,none⟩:=by unfold Addr.add;split<;>simp_all
  rwa [hadd] at this
theorem Rd.below {w w':World} {size:Nat} {v:Value} {n:Nat} {xs:List Value} (h:Rd w size v n xs) (hb:Below w.heap.size w w'):Rd w' size v n xs:=by
 obtain ⟨h1,h2,A,cap,hv,h3⟩:=h;refine ⟨h1,h2,A,cap,hv,fun hn=>?_⟩;obtain ⟨g,off,ha,hc⟩:=h3 hn;exact ⟨g,off,ha,fun j u hu=>qcU (hc j u hu) hb⟩
theorem Rd.alloc {w:World} {size:Nat} {v:Value} {n:Nat} {xs:List Value} (h:Rd w size v n xs) (o:Obj):Rd (w.alloc o) size v n xs:=h.below ((Below.refl _ _).alloc (Nat.le_refl _) _)
theorem Rd.drewN {w:World} {size:Nat} {v:Value} {n:Nat} {xs:List Value} (h:Rd w size v n xs) (k:Nat):Rd (w.drewN k) size v n xs:=h
theorem Rd.form {w:World} {size:Nat} {v:Value} {n:Nat} {xs:List Value} (h:Rd w size v n xs):∃ A cap,v=.slice A n cap:=by obtain ⟨_,_,A,cap,hv,_⟩:=h;exact ⟨A,cap,hv⟩
theorem qbN {B:Nat} {w w':World} (h:Below B w w'):Below B w w'.drew:=⟨h.os,h.tape,h.output,h.size,h.block⟩
def gw (w:World) (d:Nat) (os:Array Obj):World:={ w with heap:=w.heap++os,drawn:=d }
structure GB where
 d:Nat
 os:Array Obj
instance:Inhabited GB:=⟨⟨0,#[]⟩⟩
theorem qbG (w:World) (d:Nat) (os:Array Obj):Below w.heap.size w (gw w d os) :=
 ⟨rfl,rfl,rfl,by simp [gw],fun k hk=>by simp [gw,Array.getElem?_append,hk]⟩
theorem qcK {w w':World} (h:Below w.heap.size w w'):∃ p:GB,w'=gw w p.d p.os:=by
 refine ⟨⟨w'.drawn,w'.heap.extract w.heap.size w'.heap.size⟩,?_⟩
 have hh:w'.heap=w.heap++w'.heap.extract w.heap.size w'.heap.size:=by
  apply Array.ext_getElem?
  intro k;by_cases hk:k<w.heap.size
  ·rw [h.block k hk];simp [Array.getElem?_append,hk]
  ·rw [Array.getElem?_append_right (by omega),Array.getElem?_extract];by_cases hk2:k<w'.heap.size
   ·rw [if_pos (by omega)];congr 1;omega
   ·rw [if_neg (by omega)];simp;omega
 obtain ⟨heap,tape,drawn,os,output⟩:=w';have h1:=h.tape;have h2:=h.os;have h3:=h.output;simp only [gw] at *;subst h1 h2 h3;rw [←hh]
theorem qaB {w:World} {a:Addr} {v:Value} (h:w.cell? a=some v) (d:Nat) (os:Array Obj):(gw w d os).cell? a=some v:=qcU h (qbG w d os)
theorem qaE {P:Program} {id:Nat} {Q:Exit→Act→World→Prop} {a:Act} {w:World} {l:List Oper} (hm:P.follows .mixedOrders=true) (hB:Region.lexB .any l.toArray=true)
  (h:wpQuiet P l.toArray (fun w'=>∃ p:GB,w'=gw w p.d p.os) (fun a'=>∀ w',(∃ p:GB,w'=gw w p.d p.os)→Q .normal a' w') l a):(Code.region id l.toArray true).wp P Q a w :=
 wp_region_quiet (C:=fun w'=>∃ p:GB,w'=gw w p.d p.os) hm hB (qcK (qbN (Below.refl _ _))) (by simpa using h)
theorem qaA {P:Program} {f:FuncId} {args:Array Value} {w:World} {d:Nat} {os:Array Obj} {v:Value}
  (h:Calls P f args (gw w d os) fun e w'=>e=.returned v∧Below (gw w d os).heap.size (gw w d os) w'):Calls P f args (gw w d os) fun e w''=>e=.returned v∧∃ p:GB,w''=gw w p.d p.os :=
 h.mono fun _ _ ⟨he,hb⟩=>⟨he,qcK ((qbG w d os).trans (hb.mono (qbG w d os).size))⟩
theorem qaJ {P:Program} {f:FuncId} {args:Array Value} {w:World} {d:Nat} {os:Array Obj} {v:Value}
  (h:Calls P f args (gw w d os) fun e w'=>e=.returned v∧gw w d os=w'):Calls P f args (gw w d os) fun e w''=>e=.returned v∧∃ p:GB,w''=gw w p.d p.os :=
 h.mono fun _ _ ⟨he,hb⟩=>⟨he,⟨d,os⟩,hb.symm⟩
def Reads (w:World) (size:Nat) (v:Value) (n:Nat) (xs:List Value):Prop :=
 xs.length=n*size∧n≤9223372036854775807∧((v=.slice none 0 0∧n=0)∨∃ g off cap,v=.slice (some ⟨g,off,none⟩) n cap∧∀ j u,xs[j]?=some u→w.cell? ⟨g,off+j,none⟩=some u)
theorem Reads.of_own {w:World} {b:Nat} {e:TypeId} {size:Nat} {v:Value} {n:Nat} {xs:List Value} (h:w.ownsRow b e size v n xs):Reads w size v n xs:=by
 have hc:=fun g=>h.cells (g:=g)
 obtain ⟨h1,h2⟩:=h;refine ⟨h1,?_⟩;rcases h2 with ⟨rfl,h2⟩|⟨g,cap,cur,hv,hg,hh,hn,hm,_⟩
 ·exact ⟨by omega,.inl ⟨rfl,h2⟩⟩
 ·refine ⟨by unfold maxLen at hm;omega,.inr ⟨g,0,cap,hv,fun j u hu=>?_⟩⟩
  have:=hc g (by rw [hv];rfl) j u hu
  have hadd:(⟨g,0,none⟩:Addr).add j=⟨g,0+j,none⟩:=by unfold Addr.add;split<;>simp_all
  rwa [hadd] at this
theorem Reads.below {w w':World} {size:Nat} {v:Value} {n:Nat} {xs:List Value} (h:Reads w size v n xs) (hb:Below w.heap.size w w'):Reads w' size v n xs:=by
 obtain ⟨h1,h2,h3⟩:=h;refine ⟨h1,h2,?_⟩;rcases h3 with h3|⟨g,off,cap,hv,hc⟩
 ·exact .inl h3
 ·refine .inr ⟨g,off,cap,hv,fun j u hu=>?_⟩;have h:=hc j u hu;rw [hb.cell (World.block_lt_of_cell? w _ h)];exact h
theorem Reads.some {w:World} {size:Nat} {v:Value} {n:Nat} {xs:List Value} (h:Reads w size v n xs) (hn:n≠0):∃ g off cap,v=.slice (some ⟨g,off,none⟩) n cap∧∀ j u,xs[j]?=some u→w.cell? ⟨g,off+j,none⟩=some u:=by
 rcases h.2.2 with ⟨_,h⟩|h
 ·exact absurd h hn
 ·exact h
theorem Reads.zero {w:World} {size:Nat} {v:Value} {n:Nat} {xs:List Value} (h:Reads w size v n xs) (hn:n=0):∃ a cap,v=.slice a 0 cap:=by
 rcases h.2.2 with ⟨h,_⟩|⟨g,off,cap,h,_⟩
 ·exact ⟨_,_,h⟩
 ·exact ⟨_,_,by rw [h,hn]⟩
def IsTape (w:World) (bt at_:Nat):Prop:=∃ a len cap,w.cell? ⟨bt,0,none⟩=some (.slice a len cap)∧w.cell? ⟨bt,1,none⟩=some (.int .i64 at_)∧(∀ o,w.frozen? ⟨bt,o,none⟩=false)∧len≤9223372036854775807 ∧
 (∀ j,j<len→∃ b off v,a=some ⟨b,off,none⟩∧b<bt∧w.cell? ⟨b,off+j,none⟩=some (.int .i64 v))
theorem qcM (w:World) (row:Option Nat):w.grownBy w row:=⟨rfl,rfl,rfl,Nat.le_refl _,fun _ _ _=>rfl⟩
theorem gBt {a b c:World} {row:Option Nat} (h:a.grownBy b row) (k:b.grownBy c row):a.grownBy c row :=
 ⟨k.os.trans h.os,k.tape.trans h.tape,k.output.trans h.output,Nat.le_trans h.size k.size,fun i hi hr=>(k.block i (Nat.lt_of_lt_of_le hi h.size) hr).trans (h.block i hi hr)⟩
theorem qeQ {a b:World} {row:Option Nat} (h:a.grownBy b row) (n:Nat):a.grownBy (b.drewN n) row:=⟨h.os,h.tape,h.output,h.size,h.block⟩
theorem qeR {B:Nat} {a b:World} {bt:Nat} (h:a.grownBy b (some bt)) (hb:B≤bt) (hB:B≤a.heap.size):Below B a b:=⟨h.os,h.tape,h.output,h.size,fun k hk=>h.block k (by omega) (fun e=>by injection e with e;omega)⟩
theorem qbB {w:World} {bt:Nat} (p:Addr) (hp:p.block=bt) (v:Value):w.grownBy (w.setCell p v) (some bt) :=
 ⟨rfl,rfl,rfl,by simp [World.setCell],fun k hk hr=>Below.heap_setCell _ _ _ _ (fun e=>hr (by rw [e,hp]))⟩
theorem IsTape.lt {w:World} {bt at_:Nat} (h:IsTape w bt at_):bt<w.heap.size:=by
 obtain ⟨a,len,cap,h0,_⟩:=h;exact World.block_lt_of_cell? w _ h0
theorem IsTape.below {w w':World} {bt at_:Nat} (h:IsTape w bt at_) (hb:Below w.heap.size w w'):IsTape w' bt at_:=by
 have hlt:=h.lt;obtain ⟨a,len,cap,h0,h1,h2,h3,h4⟩:=h;refine ⟨a,len,cap,qcU h0 hb,qcU h1 hb,fun o=>by rw [hb.frozen (p:=⟨bt,o,none⟩) hlt];exact h2 o,h3,fun j hj=>?_⟩;obtain ⟨b,off,v,e,hne,hc⟩:=h4 j hj;exact ⟨b,off,v,e,hne,qcU hc hb⟩
theorem IsTape.step {w:World} {bt at_:Nat} (h:IsTape w bt at_) (at':Nat):IsTape (w.setCell ⟨bt,1,none⟩ (.int .i64 at')) bt at':=by
 obtain ⟨a,len,cap,h0,h1,h2,h3,h4⟩:=h;refine ⟨a,len,cap,?_,?_,fun o=>by rw [World.frozen?_setCell];exact h2 o,h3,fun j hj=>?_⟩
 ·rw [World.cell?_setCell_other _ _ _ _ (by simp)];exact h0
 ·exact World.cell?_setCell_same _ _ _ h1
 ·obtain ⟨b,off,v,e,hne,hc⟩:=h4 j hj;exact ⟨b,off,v,e,hne,by rw [World.cell?_setCell_other _ _ _ _ (fun e=>by injection e with e1;omega)];exact hc⟩
theorem IsTape.grown {w w':World} {bt at_:Nat} {row:Option Nat} (h:IsTape w bt at_) (hg:w.grownBy w' row) (hr:∀ k,row=some k→bt<k):IsTape w' bt at_:=by
 have hlt:=h.lt;obtain ⟨a,len,cap,h0,h1,h2,h3,h4⟩:=h;have hb:∀ b,b≤bt→w'.heap[b]?=w.heap[b]?:=fun b hb=>hg.block b (by omega) (fun e=>by have:=hr b e.symm;omega)
 refine ⟨a,len,cap,?_,?_,fun o=>?_,h3,fun j hj=>?_⟩
 ·rw [World.cell?_of_block (w:=w) (hb bt (Nat.le_refl _))];exact h0
 ·rw [World.cell?_of_block (w:=w) (hb bt (Nat.le_refl _))];exact h1
 ·rw [World.frozen?_of_block (w:=w) (hb bt (Nat.le_refl _))];exact h2 o
 ·obtain ⟨b,off,v,e,hne,hc⟩:=h4 j hj;exact ⟨b,off,v,e,hne,by rw [World.cell?_of_block (w:=w) (hb b (by omega))];exact hc⟩
def IsRow (k:IntKind) (w:World) (a:Option Addr) (len cap:Nat) (zs:List Int):Prop :=
 (a=none∧len=0∧cap=0∧zs=[]) ∨
 ∃ x,a=some x∧len≤cap∧cap≤maxLen∧zs.length=cap∧(∀ i,i<zs.length→w.cell? (x.add i)=some (.int k (zs.getD i 0)))∧∀ n∈zs,(Lit.int k n).wf=true
theorem IsRow.tape {w:World} {a:Option Addr} {len cap:Nat} {z:List Int} (h:IsRow .i64 w a len cap z) (T:TypeId):IsTape (w.alloc (.cells #[.slice a len cap,.int .i64 0] T)) w.heap.size 0:=by
 have c0:(w.alloc (.cells #[.slice a len cap,.int .i64 0] T)).cell? ⟨w.heap.size,0,none⟩=some (.slice a len cap):=by go_cell
 have c1:(w.alloc (.cells #[.slice a len cap,.int .i64 0] T)).cell? ⟨w.heap.size,1,none⟩=some (.int .i64 0):=by go_cell
 have hz:∀ o,(w.alloc (.cells #[.slice a len cap,.int .i64 0] T)).frozen? ⟨w.heap.size,o,none⟩=false:=fun o=>by simp
 rcases h with ⟨rfl,rfl,rfl,rfl⟩|⟨x,rfl,h1,h2,h3,h4,h5⟩
 ·exact ⟨_,_,_,c0,c1,hz,by omega,fun j hj=>absurd hj (by omega)⟩
 ·refine ⟨_,_,_,c0,c1,hz,by unfold maxLen at h2;omega,fun j hj=>?_⟩;have hc:=h4 j (by omega);obtain ⟨b,off,spot⟩:=x;have h0:=h4 0 (by omega);have hspot:spot=none:=by simpa [Addr.add] using World.cell?_spot h0
  subst hspot;have hadd:(⟨b,off,none⟩:Addr).add j=⟨b,off+j,none⟩:=by unfold Addr.add;split<;>simp_all
  rw [hadd] at hc;have hlt:b<w.heap.size:=World.block_lt_of_cell? w _ hc;exact ⟨b,off,_,rfl,by omega,qcW hc _⟩
theorem jbK (w:World) (l:List Int) (t:TypeId):∀ j u,l[j]?=some u→(w.alloc (.cells (l.map (Value.int .i64)).toArray t)).cell? ⟨w.heap.size,j,none⟩=some (.int .i64 u):=by
 intro j u hu;rw [cell_of_row _ w.heap.size j _ t (0,0) (heap_alloc_new w _)];simp [hu]
theorem IsTape.alloc {w:World} {bt at_:Nat} (h:IsTape w bt at_) (o:Obj):IsTape (w.alloc o) bt at_:=h.below ((Below.refl _ _).alloc (Nat.le_refl _) _)
end Go.Proofs.YtemoddmadfoaiaaGreat
set_option maxHeartbeats 1000000
namespace Go.Proofs.YtemoddmadfoaiaaGreat
open Go.RowKit Reg
open Lib (hid)
namespace Reg
def ltrI (n:Int):Bool:=decide (97≤n)&&decide (n≤122)
def namI (n:Int):Bool:=(decide (97≤n)&&decide (n≤122)) || (decide (48≤n)&&decide (n≤57))
def namesFrom (s:ByteArray) (j:Nat):Bool:=(s.data.toList.drop j).all fun c=>namI c.toNat
def firstB (s:ByteArray):Bool:=ltrI ((s.data.toList.headD 0).toNat)
def nameB (s:ByteArray):Bool:=decide (0<s.size)&&decide (s.size≤16)&&firstB s&&namesFrom s 0
theorem drop_cons (s:ByteArray) (k:Nat) (h:k<s.size):s.data.toList.drop k=s[k]::s.data.toList.drop (k+1):=by
 rw [List.drop_eq_getElem_cons (by simpa using h)];rfl
theorem qrW (s:ByteArray):s.data.toList.length=s.size:=by rw [Array.length_toList];rfl
theorem qjJ {s:ByteArray} (h:s.size=0):s=⟨#[]⟩:=ByteArray.ext (Array.ext' (by simpa using List.eq_nil_of_length_eq_zero ((qrW s).trans h)))
theorem qyL {s:ByteArray} (h:0<s.size):s.data.toList≠[]:=fun e=>by have:=qrW s;rw [e] at this;simp at this;omega
theorem qjP {s:ByteArray} (h:0<s.size):(s.toList==ByteArray.toList ⟨#[]⟩)=false∧s.toList.isEmpty=false:=by
 refine ⟨?_,?_⟩
 ·rw [beq_eq_false_iff_ne,tl,tl];exact qyL h
 ·rw [tl];have:=qyL h;cases hh:s.data.toList with
  | nil=>exact absurd hh this
  | cons a l=>rfl
theorem names_go (s:ByteArray) (j:Nat) (h:j<s.size):namesFrom s j=(namI s[j].toNat&&namesFrom s (j+1)):=by
 unfold namesFrom;rw [drop_cons s j h];rfl
theorem names_end (s:ByteArray) (j:Nat) (h:¬j<s.size):namesFrom s j=true:=by
 unfold namesFrom;rw [List.drop_eq_nil_of_le (by simp;omega)];rfl
theorem namI_no {n:Int} (h:(n<97∨122<n)∧(n<48∨57<n)):namI n=false:=by
 cases hh:namI n
 ·rfl
 ·simp only [namI,Bool.or_eq_true,Bool.and_eq_true,decide_eq_true_eq] at hh;omega
theorem jbX (s:ByteArray) (h:0<s.size):firstB s=ltrI s[0].toNat:=by
 unfold firstB
 have:=drop_cons s 0 h
 rw [List.drop_zero] at this;rw [this];rfl
end Reg
theorem qhU (w:World) (s:ByteArray) (k:Nat):Below w.heap.size w (w.iter s k):=(Below.refl _ _).alloc (Nat.le_refl _) _
theorem qnH (n:Int) (w:World) :
  Calls Tryz.prog 152 #[.int .i32 n] w fun e w'=>e=.returned (.bool (!namI n))∧w=w':=by
 go_enter Tryz.func152,Tryz.ntmps152
 go_wp2
 all_goals go_ret
 all_goals refine ⟨qaI ?_,rfl⟩
 all_goals simp only [namI]
 all_goals (rw [Bool.eq_iff_iff];simp<;>omega)
theorem qmS (s:ByteArray) (w:World) (hs:s.size≤16) :
  Calls Tryz.prog 190 #[.string s,.func (.func 152) #[] #[],.bool true] w fun e w'=>(∃ k:Int,e=.returned (.int .i64 k)∧(decide (0≤k)=!namesFrom s 0))∧Below w.heap.size w w':=by
 have HF:Hid (namesFrom s 0=namesFrom s 0):=rfl;go_enter Tryz.func190,Tryz.ntmps190
 go_wp2
 go_loopg [] (s.size) (fun n wr=>∃ k:Nat,k≤s.size∧s.size - k≤n∧wr=w.iter s k∧namesFrom s k=namesFrom s 0)
 case atStart=>exact ⟨0,Nat.zero_le _,Nat.le_refl _,rfl,rfl⟩
 case round =>
  obtain ⟨k,hk,hn,rfl,hr⟩:=hrel;by_cases hlt:k<s.size
  ·rw [names_go s k hlt] at hr;have HR:=hid hr;clear hr;by_cases ha:s[k].toNat<128
   ·have hnx:=fun ty=>run_next_ascii (P:=Tryz.prog) w s k ty hlt ha
    cases hx:namI s[k].toNat with
    | true =>
     have HX:=hid hx;have HB:=fun W=>qnH (s[k].toNat) W
     simp only [hx,Bool.not_true] at HB;have HB:=hid HB;clear hx;go_wp2_with (go_at_call 152;refine (HB.out _).mono ?_;rintro e w' ⟨rfl,rfl⟩)
     go_roundg (gk - 1)
     case measure=>omega
     case rel=>exact ⟨k+1,by omega,by omega,rfl,by rw [←HR.out,HX.out];simp⟩
    | false =>
     have HX:=hid hx;have HB:=fun W=>qnH (s[k].toNat) W
     simp only [hx,Bool.not_false] at HB;have HB:=hid HB;clear hx;go_wp2_with (go_at_call 152;refine (HB.out _).mono ?_;rintro e w' ⟨rfl,rfl⟩)
     go_ret
     exact ⟨⟨k,rfl,by rw [←HR.out,HX.out];simp⟩,qhU _ _ _⟩
   ·have hnx:=fun ty=>run_next_any (P:=Tryz.prog) w s k ty hlt
    have hd:=(decode_high s k hlt (by omega)).1;have HN:=hid (show namI s[k].toNat=false from namI_no (by omega));generalize Utf8.decode s k=D at hnx hd
    have HB:=fun W=>qnH (D.1:Int) W
    rw [namI_no (by omega)] at HB;simp only [Bool.not_false] at HB;have HB:=hid HB;go_wp2_with (go_at_call 152;refine (HB.out _).mono ?_;rintro e w' ⟨rfl,rfl⟩)
    go_ret
    exact ⟨⟨k,rfl,by rw [←HR.out,HN.out];simp⟩,qhU _ _ _⟩
  ·have hnx:=fun ty=>run_next_end (P:=Tryz.prog) w s k ty hlt
   rw [names_end s k hlt] at hr;have HR:=hid hr;clear hr;go_wp2
   go_ret
   exact ⟨⟨-1,rfl,by rw [←HR.out];rfl⟩,qhU _ _ _⟩
theorem qiH (s:ByteArray) (w:World) (hs:s.size≤16) :
  Calls Tryz.prog 151 #[.string s,.func (.func 152) #[] #[]] w fun e w'=>e=.returned (.bool (!namesFrom s 0))∧Below w.heap.size w w':=by
 have HI:∀ W:World,Calls Tryz.prog 174 #[.string s,.func (.func 152) #[] #[]] W fun e w'=>(∃ k:Int,e=.returned (.int .i64 k)∧(decide (0≤k)=!namesFrom s 0))∧Below W.heap.size W w':=by
  intro W;go_enter Tryz.func174,Tryz.ntmps174
  go_wp2_with (go_at_call 190;refine (qmS s _ hs).mono ?_;rintro e w' ⟨⟨k,rfl,hk⟩,hb⟩;have HK:=hid hk;have HB:=hid hb;clear hk hb)
  go_ret
  exact ⟨⟨k,rfl,HK.out⟩,HB.out⟩
 have HH:=hid HI;clear HI;go_enter Tryz.func151,Tryz.ntmps151
 go_wp2_with (go_at_call 174;refine (HH.out _).mono ?_;rintro e w' ⟨⟨k,rfl,hk⟩,hb⟩;have HK:=hid hk;have HB:=hid hb;clear hk hb)
 go_ret
 exact ⟨qaI HK.out,HB.out⟩
theorem qjH (s:ByteArray) (w:World) :
  Calls Tryz.prog 118 #[.string s] w fun e w'=>e=.returned (.bool (nameB s))∧Below w.heap.size w w':=by
 have hF:=nameB.eq_1 s;by_cases h0:0<s.size
 ·obtain ⟨z0,z0'⟩:=qjP h0;by_cases h1:s.size≤16
  ·have z1:¬(16:Int)<s.size:=by omega
   have hd:=jbX s h0
   cases h2:ltrI s[0].toNat with
   | false =>
    have HF:=hid (show nameB s=false by rw [hF,hd,h2];simp)
    have h3:(s[0].toNat:Int)<97∨(¬(s[0].toNat:Int)<97∧122<(s[0].toNat:Int)):=by
     simp only [ltrI,Bool.and_eq_false_iff,decide_eq_false_iff_not] at h2;omega
    clear hF hd h2;rcases h3 with h3|⟨h3,h4⟩
    all_goals
     go_enter Tryz.func118,Tryz.ntmps118
     go_wp2
     go_ret
     exact ⟨qaI HF.out.symm,Below.refl _ _⟩
   | true =>
    have HF:=hid (show nameB s=namesFrom s 0 by rw [hF,hd,h2];simp [h0,h1])
    have h3:¬(s[0].toNat:Int)<97∧¬122<(s[0].toNat:Int):=by
     simp only [ltrI,Bool.and_eq_true,decide_eq_true_eq] at h2;omega
    clear hF hd h2;obtain ⟨h3,h4⟩:=h3;go_enter Tryz.func118,Tryz.ntmps118
    go_wp2_with (go_at_call 151;refine (qiH _ _ h1).mono ?_;rintro e w' ⟨rfl,hb⟩;have HB:=hid hb;clear hb)
    go_ret
    exact ⟨qaI HF.out.symm,HB.out⟩
  ·have z1:(16:Int)<s.size:=by omega
   have HF:=hid (show nameB s=false by rw [hF];simp [h1]);clear hF;go_enter Tryz.func118,Tryz.ntmps118
   go_wp2
   go_ret
   exact ⟨qaI HF.out.symm,Below.refl _ _⟩
 ·have hz:s=⟨#[]⟩:=qjJ (by omega);subst hz;have HF:=hid (show nameB ⟨#[]⟩=false by rw [hF];simp [h0]);clear hF;go_enter Tryz.func118,Tryz.ntmps118
  go_wp2
  go_ret
  exact ⟨qaI HF.out.symm,Below.refl _ _⟩
end Go.Proofs.YtemoddmadfoaiaaGreat
namespace Go.Proofs.YtemoddmadfoaiaaGreat
open Go.RowKit
namespace Tok
def digI (n:Int):Bool:=decide (48≤n)&&decide (n≤57)
theorem drop_cons (s:ByteArray) (k:Nat) (h:k<s.size):s.data.toList.drop k=s[k]::s.data.toList.drop (k+1):=by
 rw [List.drop_eq_getElem_cons (by simpa using h)];rfl
def digAt (s:ByteArray) (j:Nat):Bool:=match s.data.toList[j]? with|some c=>digI c.toNat|none=>false
end Tok
open Tok
namespace Tok
def namI (n:Int):Bool:=(decide (97≤n)&&decide (n≤122)) || (decide (48≤n)&&decide (n≤57))
def namesFrom (s:ByteArray) (j:Nat):Bool:=(s.data.toList.drop j).all fun c=>namI c.toNat
def nameB (s:ByteArray):Bool:=decide (0<s.size)&&decide (s.size≤16)&&!digAt s 0&&namesFrom s 0
theorem names_go (s:ByteArray) (j:Nat) (h:j<s.size):namesFrom s j=(namI s[j].toNat&&namesFrom s (j+1)):=by
 unfold namesFrom;rw [drop_cons s j h];rfl
theorem names_end (s:ByteArray) (j:Nat) (h:¬j<s.size):namesFrom s j=true:=by
 unfold namesFrom;rw [List.drop_eq_nil_of_le (by simp;omega)];rfl
theorem namI_no {n:Int} (h:(n<97∨122<n)∧(n<48∨57<n)):namI n=false:=by
 cases hh:namI n
 ·rfl
 ·simp only [namI,Bool.or_eq_true,Bool.and_eq_true,decide_eq_true_eq] at hh;omega
end Tok
end Go.Proofs.YtemoddmadfoaiaaGreat
set_option maxHeartbeats 1000000
namespace Go.Proofs.YtemoddmadfoaiaaGreat
open Go.RowKit Reg
open Lib (hid)
namespace Reg
def acctB (nm hl:ByteArray):Bool:=nameB hl&&(decide (nm.size=0) || nameB nm)
end Reg
theorem qnJ (nm hl:ByteArray) (w:World) :
  Calls Tryz.prog 114 #[.agg #[.string nm,.string hl]] w fun e w'=>e=.returned (.bool (acctB nm hl))∧Below w.heap.size w w':=by
 have HB:=fun W=>qjH hl W
 have HA:=fun W=>qjH nm W
 have hF:=acctB.eq_1 nm hl
 cases h1:nameB hl with
 | false =>
  rw [h1] at HB;have HB:=hid HB;have HF:=hid (show acctB nm hl=false by rw [hF,h1];rfl);clear hF h1 HA;go_enter Tryz.func114,Tryz.ntmps114
  go_wp2_with (go_at_call 118;refine (HB.out _).mono ?_;rintro e w1 ⟨rfl,hb⟩;have HB1:=hid hb;clear hb)
  go_ret
  exact ⟨qaI HF.out.symm,((Below.refl _ _).alloc (Nat.le_refl _) _).trans (HB1.out.mono (by simp))⟩
 | true =>
  rw [h1] at HB;have HB:=hid HB;by_cases h0:0<nm.size
  ·obtain ⟨z0,z0'⟩:=qjP h0;have HF:=hid (show acctB nm hl=nameB nm by rw [hF,h1,decide_eq_false (show ¬nm.size=0 by omega)];rfl);have HA:=hid HA;clear hF h1;go_enter Tryz.func114,Tryz.ntmps114
   go_wp2_with fail
   refine (HB.out _).mono ?_;rintro e w1 ⟨rfl,hb⟩;have c0:=qcU (show (w.alloc (.cells #[.string nm,.string hl] 54)).cell? ⟨w.heap.size,0,none⟩=some (.string nm) by go_cell) hb;have HB1:=hid hb;clear hb;go_wp2_with fail
   refine (HA.out _).mono ?_;rintro e w2 ⟨rfl,hb⟩;have HB2:=hid hb;clear hb;go_wp2
   go_ret
   have hb1:=((Below.refl w.heap.size w).alloc (Nat.le_refl _) (.cells #[.string nm,.string hl] 54)).trans (HB1.out.mono (by simp));exact ⟨qaI HF.out.symm,hb1.trans (HB2.out.mono hb1.size)⟩
  ·have hz:=qjJ (show nm.size=0 by omega);have HF:=hid (show acctB nm hl=true by rw [hF,h1,decide_eq_true (show nm.size=0 by omega)];rfl);clear hF h1 HA;subst hz;go_enter Tryz.func114,Tryz.ntmps114
   go_wp2_with fail
   refine (HB.out _).mono ?_;rintro e w1 ⟨rfl,hb⟩;have c0:=qcU (show (w.alloc (.cells #[.string ⟨#[]⟩,.string hl] 54)).cell? ⟨w.heap.size,0,none⟩=some (.string ⟨#[]⟩) by go_cell) hb;have HB1:=hid hb;clear hb;go_wp2
   go_ret
   exact ⟨qaI HF.out.symm,((Below.refl _ _).alloc (Nat.le_refl _) _).trans (HB1.out.mono (by simp))⟩
theorem qaZ {B:Nat} {a w:World} (h:Below B a w) (n:Nat):Below B a (w.drewN n):=⟨h.os,h.tape,h.output,h.size,h.block⟩
set_option maxHeartbeats 2000000
def modI (n m:Int):Int:=if m<1 then 0 else n%m
theorem qwW (n m:Int) (h:1≤m):0≤modI n m∧modI n m<m:=by
  unfold modI;rw [if_neg (by omega)];exact ⟨Int.emod_nonneg _ (by omega),Int.emod_lt_of_pos _ (by omega)⟩
theorem qpV (v n:Int) (hn:1≤n):(v.tmod n<0→v.tmod n+n=v%n)∧(¬v.tmod n<0→v.tmod n=v%n)∧-n<v.tmod n∧v.tmod n<n:=by
  have h1:=Int.emod_nonneg v (show n≠0 by omega);have h2:=Int.emod_lt_of_pos v (show 0<n by omega);have h3:=Int.tmod_eq_emod (a:=v) (b:=n);have h4:(n.natAbs:Int)=n:=by omega
  by_cases hd:0≤v∨n∣v
  · rw [if_pos hd] at h3
    refine ⟨fun h=>?_,fun h=>?_,?_,?_⟩<;>omega
  · rw [if_neg hd] at h3
    have h5:v%n≠0:=fun h=>hd (.inr (Int.dvd_of_emod_eq_zero h))
    refine ⟨fun h=>?_,fun h=>?_,?_,?_⟩<;>omega
theorem qwV (v n:Int) (w:World) (hn:n≤9223372036854775807) :
    Calls Tryz.prog 18 #[.int .i64 v,.int .i64 n] w fun e w'=>e=.returned (.int .i64 (modI v n))∧w=w':=by
  by_cases h1:n<1
  · have HF:=hid (show modI v n=0 by unfold modI;rw [if_pos h1])
    go_enter Tryz.func18,Tryz.ntmps18
    go_wp2
    go_ret
    exact ⟨qaK HF.out.symm,rfl⟩
  · have HF:=hid (show modI v n=v%n by unfold modI;rw [if_neg h1])
    obtain ⟨t1,t2,t3,t4⟩:=qpV v n (by omega);have H1:=hid t1;have H2:=hid t2;clear t1 t2;have hn0:¬n=0:=by omega
    have hw:IntKind.i64.wrap (v.tmod n)=v.tmod n:=IntWalk.i64_in _ (by omega);go_enter Tryz.func18,Tryz.ntmps18
    by_cases c:v.tmod n<0
    · have HS:=hid (H1.out c)
      have hw2:IntKind.i64.wrap (v.tmod n+n)=v.tmod n+n:=IntWalk.i64_in _ (by omega);go_wp2
      go_ret
      exact ⟨qaK (by rw [HF.out,HS.out]),rfl⟩
    · have HS:=hid (H2.out c)
      go_wp2
      go_ret
      exact ⟨qaK (by rw [HF.out,HS.out]),rfl⟩
def IsTp (w:World) (bt:Nat):Prop:=∃ (at_:Nat) (a:Option Addr) (len cap:Nat),at_≤len∧w.cell? ⟨bt,0,none⟩=some (.slice a len cap)∧w.cell? ⟨bt,1,none⟩=some (.int .i64 at_)∧(∀ o,w.frozen? ⟨bt,o,none⟩=false)∧len≤9223372036854775807 ∧
  (∀ j,j<len→∃ b off v,a=some ⟨b,off,none⟩∧b<bt∧w.cell? ⟨b,off+j,none⟩=some (.int .i64 v))
theorem qaM {a b:World} (h:Below a.heap.size a b) (row:Option Nat):a.grownBy b row:=⟨h.os,h.tape,h.output,h.size,fun k hk _=>h.block k hk⟩
theorem IsTp.lt {w:World} {bt:Nat} (h:IsTp w bt):bt<w.heap.size:=by
  obtain ⟨_,a,len,cap,_,h0,_⟩:=h;exact World.block_lt_of_cell? w _ h0
theorem IsTp.below {w w':World} {bt:Nat} (h:IsTp w bt) (hb:Below w.heap.size w w'):IsTp w' bt:=by
  have hlt:=h.lt;obtain ⟨at_,a,len,cap,hle,h0,h1,h2,h3,h4⟩:=h;refine ⟨at_,a,len,cap,hle,qcU h0 hb,qcU h1 hb,fun o=>by rw [hb.frozen (p:=⟨bt,o,none⟩) hlt];exact h2 o,h3,fun j hj=>?_⟩;obtain ⟨b,off,v,e,hne,hc⟩:=h4 j hj;exact ⟨b,off,v,e,hne,qcU hc hb⟩
theorem IsTp.drewN {w:World} {bt:Nat} (h:IsTp w bt) (d:Nat):IsTp (w.drewN d) bt:=h
theorem IsTp.grown {w w':World} {bt:Nat} {row:Option Nat} (h:IsTp w bt) (hg:w.grownBy w' row) (hr:∀ k,row=some k→bt<k):IsTp w' bt:=by
  have hlt:=h.lt;obtain ⟨at_,a,len,cap,hle,h0,h1,h2,h3,h4⟩:=h;have hb:∀ b,b≤bt→w'.heap[b]?=w.heap[b]?:=fun b hb=>hg.block b (by omega) (fun e=>by have:=hr b e.symm;omega)
  refine ⟨at_,a,len,cap,hle,?_,?_,fun o=>?_,h3,fun j hj=>?_⟩
  · rw [World.cell?_of_block (w:=w) (hb bt (Nat.le_refl _))];exact h0
  · rw [World.cell?_of_block (w:=w) (hb bt (Nat.le_refl _))];exact h1
  · rw [World.frozen?_of_block (w:=w) (hb bt (Nat.le_refl _))];exact h2 o
  · obtain ⟨b,off,v,e,hne,hc⟩:=h4 j hj
    exact ⟨b,off,v,e,hne,by rw [World.cell?_of_block (w:=w) (hb b (by omega))];exact hc⟩
def Drew (w:World) (bt:Nat) (w':World):Prop:=IsTp w' bt∧w.grownBy w' (some bt)
theorem Drew.refl {w:World} {bt:Nat} (h:IsTp w bt):Drew w bt w:=⟨h,qcM _ _⟩
theorem Drew.trans {a b c:World} {bt:Nat} (h:Drew a bt b) (k:Drew b bt c):Drew a bt c:=⟨k.1,gBt h.2 k.2⟩
theorem Drew.below {a b c:World} {bt:Nat} (h:Drew a bt b) (k:Below b.heap.size b c):Drew a bt c:=⟨h.1.below k,gBt h.2 (qaM k _)⟩
theorem Drew.cell {w w':World} {bt:Nat} {a:Addr} {v:Value} (h:Drew w bt w') (hc:w.cell? a=some v) (hne:a.block≠bt):w'.cell? a=some v:=h.2.cell hc (fun e=>by simp at e;exact hne (by rw [e]))
theorem Drew.frozen {w w':World} {bt:Nat} {a:Addr} (h:Drew w bt w') (ha:a.block<w.heap.size) (hne:a.block≠bt):w'.frozen? a=w.frozen? a :=
  World.frozen?_of_block (h.2.block _ ha (fun e=>by simp at e;exact hne e))
theorem Drew.size {w w':World} {bt:Nat} (h:Drew w bt w'):w.heap.size≤w'.heap.size:=h.2.size
theorem Drew.setCell {w w':World} {bt:Nat} (h:Drew w bt w') (hbt:bt<w.heap.size) (p:Addr) (v:Value) (hp:w.heap.size≤p.block):Drew w bt (w'.setCell p v) :=
  ⟨h.1.grown (row:=some p.block) (qbB p rfl v) (fun k hk=>by injection hk with hk;omega),
   h.2.os,h.2.tape,h.2.output,by simpa [World.setCell] using h.2.size,fun k hk hr=>(Below.heap_setCell _ _ _ _ (fun e=>by omega)).trans (h.2.block k hk hr)⟩
theorem Drew.alloc {w w':World} {bt:Nat} (h:Drew w bt w') (o:Obj):Drew w bt (w'.alloc o):=h.below ((Below.refl _ _).alloc (Nat.le_refl _) _)
theorem Drew.drewN {w w':World} {bt:Nat} (h:Drew w bt w') (d:Nat):Drew w bt (w'.drewN d):=h.below (qaZ (Below.refl _ _) _)
theorem qbA (bt:Nat) (n:Int) (w:World) (ht:IsTp w bt) (hn1:1≤n) (hn:n≤9223372036854775807) :
    Calls Tryz.prog 23 #[.pointer (some ⟨bt,0,none⟩),.int .i64 n] w fun e w'=>∃ v:Int,e=.returned (.int .i64 v)∧0≤v∧v<n∧Drew w bt w':=by
  have HT:=hid ht;obtain ⟨at_,a,len,cap,hle,h0,h1,h2,h3,h4⟩:=ht;have hz:=h2 1;have HZ:=hid h2;clear h2;by_cases hlt:at_<len
  · obtain ⟨b,off,v,rfl,hne,hc⟩:=h4 at_ hlt
    have H4:=hid h4;have HMB:=hid (qwW v n hn1);have HC0:=hid h0;have hge:decide ((len:Int)≤(at_:Int))=false:=by simp;omega
    have hw1:IntKind.i64.wrap ((at_:Int)+1)=(at_:Int)+1:=IntWalk.i64_in _ (by omega);have hcb:b≠bt:=by omega
    clear h4;go_enter Tryz.func23,Tryz.ntmps23
    go_wp2
    go_quiet (fail)
    go_wp2
    have hw2:(at_:Int)+1 - 1=(at_:Int):=by omega
    have hw3:IntKind.i64.wrap (at_:Int)=(at_:Int):=IntWalk.i64_in _ (by omega)
    go_quiet ((go_at_call 18;exact (qwV _ _ _ hn).mono fun _ _ ⟨he,hw⟩=>⟨he,_,hw.symm⟩))
    go_wp2
    go_ret
    refine ⟨_,rfl,HMB.out.1,HMB.out.2,?_,qeQ (gBt (qeQ (qcM _ _) _) (qbB (bt:=bt) ⟨bt,1,none⟩ rfl _)) _⟩;refine IsTp.drewN ⟨at_+1,some ⟨b,off,none⟩,len,cap,by omega,?_,?_,fun o=>?_,h3,fun j hj=>?_⟩ _
    · rw [World.cell?_setCell_other _ _ _ _ (by simp)];exact HC0.out
    · exact World.cell?_setCell_same _ _ _ h1
    · rw [World.frozen?_setCell];exact HZ.out o
    · obtain ⟨b',off',v',e,hne',hc'⟩:=H4.out j hj
      exact ⟨b',off',v',e,hne',by rw [World.cell?_setCell_other _ _ _ _ (fun e=>by injection e with e1;omega)];exact hc'⟩
  · have hlt':len≤at_:=by omega
    clear h4;go_enter Tryz.func23,Tryz.ntmps23
    go_wp2
    go_quiet (fail)
    go_wp2
    go_ret
    exact ⟨0,rfl,by omega,by omega,HT.out.below (qaZ (Below.refl _ _) _),qeQ (qcM _ _) _⟩
theorem qgQ (bt:Nat) (g cap n:Nat) (l:List Int) (w:World) (hn:l.length=n) (ht:IsTp w bt) (hl:0<n) (hl2:n≤1000000000) (hg:g≠bt)
    (hc:∀ j u,l[j]?=some u→w.cell? ⟨g,j,none⟩=some (.int .i64 u)) :
    Calls Tryz.prog 50 #[.pointer (some ⟨bt,0,none⟩),.slice (some ⟨g,0,none⟩) n cap] w fun e w'=>∃ s,s∈l∧e=.returned (.int .i64 s)∧Drew w bt w':=by
  have HC:=hid hc;have HL:=hid hl;have HN:=hid hn;clear hc hl hn;go_enter Tryz.func50,Tryz.ntmps50
  go_wp2_with fail
  refine (qbA bt n w ht (by have:=HL.out;omega) (by omega)).mono ?_;rintro e w1 ⟨v,rfl,hv0,hv1,hd⟩;obtain ⟨k,rfl⟩:∃ k:Nat,v=k:=⟨v.toNat,by omega⟩;have hlt:k<n:=by omega
  obtain ⟨x,hx⟩:∃ x,l[k]?=some x:=⟨l[k]'(by rw [HN.out];exact hlt),by simp [HN.out,hlt]⟩;have hc1:w1.cell? ⟨g,k,none⟩=some (.int .i64 x):=hd.cell (HC.out k x hx) hg;have HX:=hid (List.mem_of_getElem? hx);have HD:=hid hd;clear hx hd;go_wp2
  go_ret
  exact ⟨x,HX.out,rfl,HD.out⟩
set_option maxHeartbeats 2000000
namespace Reg
def scJones:ByteArray:=⟨#[106,111,110,101,115]⟩
def scSmith:ByteArray:=⟨#[115,109,105,116,104]⟩
def scBank:ByteArray:=⟨#[98,97,110,107]⟩
def scAnn:ByteArray:=⟨#[97,110,110]⟩
def scBob:ByteArray:=⟨#[98,111,98]⟩
def accs:List (ByteArray × ByteArray):=[(⟨#[]⟩,scSmith),(⟨#[]⟩,scJones),(scBank,scAnn),(scBank,scBob),(⟨#[]⟩,scAnn),(⟨#[]⟩,scBank)]
def accCells (l:List (ByteArray × ByteArray)):List Value:=l.flatMap fun x=>[.string x.1,.string x.2]
theorem qpN (l:List (ByteArray × ByteArray)) (i:Nat) (t:ByteArray × ByteArray) (h:l[i]?=some t):(accCells l)[i*2]?=some (.string t.1)∧(accCells l)[i*2+1]?=some (.string t.2):=by
 induction l generalizing i with
 | nil=>simp at h
 | cons a l ih =>
  cases i with
  | zero=>simp at h;subst h;simp [accCells]
  | succ i =>
   have:=ih i (by simpa using h)
   simp only [accCells,List.flatMap_cons,List.cons_append,List.nil_append] at this ⊢;rw [show (i+1)*2+1=(i*2+1)+1+1 by omega,show (i+1)*2=(i*2)+1+1 by omega]
   simpa using this
theorem qzN:∀ x∈accs,acctB x.1 x.2=true:=by decide +kernel
end Reg
theorem qhV (b o j:Nat):(⟨b,o,none⟩:Addr).add j=⟨b,o+j,none⟩:=by unfold Addr.add;split<;>simp_all
theorem qmV (w:World) (o o2:Obj) (j:Nat):((w.alloc o).alloc o2).frozen? ⟨w.heap.size,j,none⟩=(w.alloc o).frozen? ⟨w.heap.size,j,none⟩:=World.frozen?_of_block (Below.heap_alloc _ _ _ (by simp))
theorem qjW (bt:Nat) (w:World) (ht:IsTp w bt) :
  Calls Tryz.prog 26 #[.pointer (some ⟨bt,0,none⟩)] w fun e w'=>∃ x,x∈accs∧e=.returned (.agg #[.string x.1,.string x.2])∧Drew w bt w':=by
 have hbt:=ht.lt;have HT:=hid ht;go_enter Tryz.func26,Tryz.ntmps26
 go_wp2_with fail
 refine (qbA bt 6 _ (HT.out.below ?hb) (by omega) (by omega)).mono ?_
 case hb=>exact ((Below.refl _ _).alloc (Nat.le_refl _) _).alloc (by simp) _
 rintro e w1 ⟨v,rfl,hv0,hv1,hd⟩;obtain ⟨k,rfl⟩:∃ k:Nat,v=k:=⟨v.toNat,by omega⟩;have hlt:k<accs.length:=by show k<6;omega
 obtain ⟨x,hx⟩:∃ x,accs[k]?=some x:=⟨accs[k],by simp [hlt]⟩;obtain ⟨g0,g1⟩:=qpN accs k x hx;have c0:w1.cell? ⟨w.heap.size+1,k*2,none⟩=some (.string x.1):=hd.cell (by have:=qfD (w.alloc (.cells #[.string ⟨#[]⟩,.string ⟨#[]⟩] 54)) (accCells accs) 54 _ _ g0;rwa [qhV,World.size_alloc,Nat.zero_add] at this) (by simp;omega);have c1:w1.cell? ⟨w.heap.size+1,k*2+1,none⟩=some (.string x.2):=hd.cell (by have:=qfD (w.alloc (.cells #[.string ⟨#[]⟩,.string ⟨#[]⟩] 54)) (accCells accs) 54 _ _ g1;rwa [qhV,World.size_alloc,Nat.zero_add] at this) (by simp;omega);have r0:w1.cell? ⟨w.heap.size,0,none⟩=some (.string ⟨#[]⟩):=hd.cell (by go_cell) (by simp;omega);have r1:w1.cell? ⟨w.heap.size,1,none⟩=some (.string ⟨#[]⟩):=hd.cell (by go_cell) (by simp;omega);have z0:w1.frozen? ⟨w.heap.size,0,none⟩=false:=by rw [hd.frozen (by simp;omega) (by simp;omega)];rw [qmV];simp
 have z1:w1.frozen? ⟨w.heap.size,1,none⟩=false:=by rw [hd.frozen (by simp;omega) (by simp;omega)];rw [qmV];simp
 have HX:=hid (List.mem_of_getElem? hx);have HD:=hid hd;clear hx hd g0 g1;go_wp2
 refine bodyPost_ret (v:=.agg #[.string x.1,.string x.2]) (by simp [results,Tryz.results26,go_sem,r0,r1]) rfl ⟨x,HX.out,rfl,?_⟩;exact ((((Drew.refl HT.out).alloc _).alloc _).trans HD.out |>.setCell hbt _ _ (Nat.le_refl _)).setCell hbt _ _ (Nat.le_refl _)
theorem qjM (w:World) (l:List Int) (t:TypeId) (g:Nat) (hg:g=w.heap.size):∀ j u,l[j]?=some u→(w.alloc (.cells (l.map (Value.int .i64)).toArray t)).cell? ⟨g,j,none⟩=some (.int .i64 u):=by
 intro j u hu
 have:=qfD w (l.map (Value.int .i64)) t j (.int .i64 u) (by simp [hu])
 rwa [qhV,Nat.zero_add,←hg] at this
theorem qiT (bt:Nat) (w:World) (ht:IsTp w bt) :
  Calls Tryz.prog 51 #[.pointer (some ⟨bt,0,none⟩)] w fun e w'=>∃ u:Int,e=.returned (.int .i64 u)∧1≤u∧u≤1000000∧Drew w bt w':=by
 have hbt:=ht.lt;go_enter Tryz.func51,Tryz.ntmps51
 go_wp2_with fail
 refine (qbA bt 20 _ ht (by omega) (by omega)).mono ?_;rintro e w1 ⟨a,rfl,ha0,ha1,hd1⟩;have HD1:=hid hd1;clear hd1;go_wp2_with fail
 refine (qbA bt 1000 _ HD1.out.1 (by omega) (by omega)).mono ?_;rintro e w2 ⟨b,rfl,hb0,hb1,hd2⟩;have HD2:=hid (HD1.out.trans hd2);clear hd2;go_wp2_with fail
 refine (qbA bt 1000000 _ HD2.out.1 (by omega) (by omega)).mono ?_;rintro e w3 ⟨c,rfl,hc0,hc1,hd3⟩;have HD3:=hid (HD2.out.trans hd3);have hz3:=hd3.size;have hz2:=HD2.out.size;clear hd3;go_wp2_with fail
 have HP:=hid (qjM w3 [1,2,3,1+a,1+b,1+c] 3 w3.heap.size rfl);refine (qgQ bt w3.heap.size 6 6 [1,2,3,1+a,1+b,1+c] _ rfl (HD3.out.alloc _).1 (by omega) (by omega) (by omega) HP.out).mono ?_;rintro e w4 ⟨u,hu,rfl,hd4⟩;have HD4:=hid ((HD3.out.alloc _).trans hd4);have HU:=hid hu;clear hd4 hu;go_wp2
 go_ret
 have hu:=HU.out;simp only [List.mem_cons,List.not_mem_nil,or_false] at hu;exact ⟨u,rfl,by omega,by omega,HD4.out⟩
set_option maxHeartbeats 1000000
theorem IsRow.tp {w:World} {a:Option Addr} {len cap:Nat} {z:List Int} (h:IsRow .i64 w a len cap z) (hcap:len≤9223372036854775807) (T:TypeId):IsTp (w.alloc (.cells #[.slice a len cap,.int .i64 0] T)) w.heap.size:=by
 have c0:(w.alloc (.cells #[.slice a len cap,.int .i64 0] T)).cell? ⟨w.heap.size,0,none⟩=some (.slice a len cap):=by go_cell
 have c1:(w.alloc (.cells #[.slice a len cap,.int .i64 0] T)).cell? ⟨w.heap.size,1,none⟩=some (.int .i64 ((0:Nat):Int)):=by go_cell
 have hz:∀ o,(w.alloc (.cells #[.slice a len cap,.int .i64 0] T)).frozen? ⟨w.heap.size,o,none⟩=false:=fun o=>by simp
 rcases h with ⟨rfl,rfl,rfl,rfl⟩|⟨x,rfl,h1,h2,h3,h4,h5⟩
 ·exact ⟨0,_,_,_,Nat.le_refl _,c0,c1,hz,by omega,fun j hj=>absurd hj (by omega)⟩
 ·refine ⟨0,_,_,_,Nat.zero_le _,c0,c1,hz,hcap,fun j hj=>?_⟩;have hc:=h4 j (by omega);obtain ⟨b,off,spot⟩:=x;have h0:=h4 0 (by omega);have hspot:spot=none:=by simpa [Addr.add] using World.cell?_spot h0
  subst hspot;rw [qhV] at hc;have hlt:b<w.heap.size:=World.block_lt_of_cell? w _ hc;exact ⟨b,off,_,rfl,by omega,qcW hc _⟩
theorem jeB {w:World} {a:Option Addr} {len cap:Nat} {z:List Int} (h:IsRow .i64 w a len cap z):len≤maxLen:=by
 rcases h with ⟨_,rfl,_,_⟩|⟨x,_,h1,h2,_⟩
 ·exact Nat.zero_le _
 ·omega
theorem jeV (a:Option Addr) (len cap:Nat) (z:List Int) (w:World) (h:IsRow .i64 w a len cap z) (hl:len≤9223372036854775807) :
  Calls Tryz.prog 14 #[.slice a len cap] w fun e w'=>e=.returned (.pointer (some ⟨w.heap.size,0,none⟩))∧IsTp w' w.heap.size∧Below w.heap.size w w':=by
 have HT:=hid (h.tp hl 86);clear h;go_enter Tryz.func14,Tryz.ntmps14
 go_wp2
 go_ret
 exact ⟨rfl,HT.out,(Below.refl _ _).alloc (Nat.le_refl _) _⟩
end Go.Proofs.YtemoddmadfoaiaaGreat
