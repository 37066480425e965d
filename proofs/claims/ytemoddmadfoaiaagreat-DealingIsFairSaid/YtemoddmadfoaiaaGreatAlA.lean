import Derived.Test.YtemoddmadfoaiaaGreatScN
import Derived.Maps.Own
import Derived.Maps.OwnSet
import Derived.Maps.Views
import Derived.StringKeys
set_option linter.unusedVariables false
set_option linter.unusedSimpArgs false
namespace Go.Proofs.YtemoddmadfoaiaaGreat
open Go.RowKit Tok
namespace Al
structure Bk where
 name:ByteArray
 net:Int
 flows:Int
 own:Int
 units:Int
def Bk.cells (b:Bk):List Value:=[.string b.name,.int .i64 b.net,.int .i64 b.flows,.int .i64 b.own,.int .i64 b.units]
def cellsB (l:List Bk):List Value:=l.flatMap Bk.cells
def inR (n lo hi:Int):Bool:=decide (lo≤n)&&decide (n≤hi)
theorem qmT {n lo hi:Int} (h:inR n lo hi=true):lo≤n∧n≤hi:=by simpa [inR] using h
theorem qrZ {n lo hi:Int} (h:lo≤n) (h2:n≤hi):inR n lo hi=true:=by simp [inR,h,h2]
def okB (b:Bk):Bool :=
 nameB b.name&&inR b.net 0 1000000000000000&&inR b.flows (-1000000000000000) 1000000000000000&&inR (b.net+b.flows) 0 1000000000000000&&inR b.own (-1000000000000000) 1000000000000000&&inR b.units 0 1000000000000000
def okAt (l:List Bk) (k:Nat):Bool:=match l[k]? with
 | some b=>okB b&&!((l.take k).any fun c=>decide (c.name=b.name))
 | none=>true
def okL (l:List Bk):Bool:=(List.range l.length).all fun k=>okAt l k
def checkB (l:List Bk):Bool:=inR (l.length:Nat) 1 4&&okL l
theorem okL_yes {l:List Bk} (h:∀ k,k<l.length→okAt l k=true):okL l=true:=by
 unfold okL;rw [List.all_eq_true];intro k hk;exact h k (List.mem_range.1 hk)
theorem okL_no {l:List Bk} {k:Nat} (hk:k<l.length) (h:okAt l k=false):okL l=false:=by
 unfold okL;rw [List.all_eq_false];exact ⟨k,List.mem_range.2 hk,by rw [h];simp⟩
theorem okL_at {l:List Bk} (h:okL l=true) {k:Nat} (hk:k<l.length):okAt l k=true:=by
 unfold okL at h;rw [List.all_eq_true] at h;exact h k (List.mem_range.2 hk)
end Al
open Al
def BksAt (w:World) (v:Value) (l:List Bk):Prop:=Rd w 5 v l.length (cellsB l)
theorem BksAt.below {w w':World} {v:Value} {l:List Bk} (h:BksAt w v l) (hb:Below w.heap.size w w'):BksAt w' v l:=Rd.below h hb
def CellsAtB (w:World) (g o:Nat) (x:Bk):Prop:=w.cell? ⟨g,o,none⟩=some (.string x.name)∧w.cell? ⟨g,o+1,none⟩=some (.int .i64 x.net)∧w.cell? ⟨g,o+2,none⟩=some (.int .i64 x.flows)∧w.cell? ⟨g,o+3,none⟩=some (.int .i64 x.own)∧w.cell? ⟨g,o+4,none⟩=some (.int .i64 x.units)
theorem CellsAtB.below {w w':World} {g o:Nat} {x:Bk} (h:CellsAtB w g o x) (hb:Below w.heap.size w w'):CellsAtB w' g o x:=⟨qcU h.1 hb,qcU h.2.1 hb,qcU h.2.2.1 hb,qcU h.2.2.2.1 hb,qcU h.2.2.2.2 hb⟩
theorem quF {H:Type} (u z:DataW H) (k:Lit) (hkk:WideAt.IsKeyLit k):∀ (acc:List Lit) (m:DataW H),Maps.IsMap m→(k∈acc→(acc.foldl (fun m x=>m.put x u) m).atKey k z=u)∧(k∉acc→(acc.foldl (fun m x=>m.put x u) m).atKey k z=m.atKey k z):=by
 intro acc
 induction acc with
 | nil=>intro m _;exact ⟨fun h=>(List.not_mem_nil h).elim,fun _=>rfl⟩
 | cons x acc ih =>
  intro m hm;obtain ⟨h1,h2⟩:=ih (m.put x u) (hm.put x u);refine ⟨fun h=>?_,fun h=>?_⟩
  ·rcases Classical.em (k∈acc) with hk|hk
   ·exact h1 hk
   ·rcases List.mem_cons.1 h with e|e
    ·subst e;show (acc.foldl (fun m x=>m.put x u) (m.put k u)).atKey k z=u
     rw [h2 hk,Maps.atKey_put_same hm hkk]
    ·exact absurd e hk
  ·have hx:k≠x:=fun e=>h (by rw [e];exact List.mem_cons_self ..)
   show (acc.foldl (fun m x=>m.put x u) (m.put x u)).atKey k z=m.atKey k z
   rw [h2 (fun e=>h (List.mem_cons_of_mem _ e)),Maps.atKey_put_other hx]
theorem qfV {H:Type} {P:Program} {e:TypeId} (he:P.underlying e=some .bool) {v:Value} {x:Bool} {ps:List MemPlace} (h:plainElem (H:=H) P e v=some (.lit (.bool x),ps)):v=.bool x:=by
 unfold plainElem at h;rw [he] at h
 cases v<;>simp at h
 rw [h.1]
def litS (s:ByteArray):Lit:=.string s.data.toList
theorem jbD {s t:ByteArray} (h:litS s=litS t):s=t:=by
 unfold litS at h;injection h with h
 exact ByteArray.ext (Array.ext' h)
def SetB (w:World) (M:Nat) (l:List ByteArray):Prop:=w.ownsMap (H:=Unit) Tryz.prog 9 (plainElem Tryz.prog 4) M l.length (Maps.setOf (.lit (.bool true)) (l.map litS))
theorem SetB.made (w:World):SetB (w.alloc (.map #[] 0)) w.heap.size []:=World.ownsMap_made _ _ _ _
theorem SetB.below {w w':World} {M:Nat} {l:List ByteArray} (h:SetB w M l) (hb:Below w.heap.size w w'):SetB w' M l :=
 World.ownsMap.kept (row:=none) h ⟨hb.os,hb.tape,hb.output,hb.size,fun k h _=>hb.block k h⟩ (by simp)
theorem SetB.lt {w:World} {M:Nat} {l:List ByteArray} (h:SetB w M l):M<w.heap.size:=World.ownsMap.lt h
theorem SetB.look {w:World} {M:Nat} {l:List ByteArray} (h:SetB w M l) (s:ByteArray) (hs:s.size≤maxLen) :
  (Instr.lookup 121 (.map (some M)) (.string s) false).run Tryz.prog w=.ok (.bool (l.any fun t=>decide (t=s))) w:=by
 have hb:Tryz.prog.underlying 4=some .bool:=Tryz.underlying4;obtain ⟨v,ps,hrun,hv⟩:=World.ownsMap.lookup h (Maps.string_keyed Tryz.underlying9) Tryz.underlying121 (z:=.bool false) (by kernel_rfl) (plainElem_bool hb false) (WideMaps.keyOf_string_mk Tryz.underlying9 hs);rw [hrun];have hf:=quF (H:=Unit) (.lit (.bool true)) (.lit (.bool false)) (litS s) (by exact True.intro) (l.map litS) (.map []) Maps.isMap_empty;have hmem:litS s∈l.map litS↔s∈l:=⟨fun h=>by obtain ⟨t,ht,e⟩:=List.mem_map.1 h;rw [←jbD e];exact ht,fun h=>List.mem_map.2 ⟨s,h,rfl⟩⟩
 cases hh:l.any fun t=>decide (t=s) with
 | true =>
  have hin:s∈l:=by obtain ⟨t,ht,e⟩:=List.any_eq_true.1 hh;rw [←of_decide_eq_true e];exact ht
  have h1:=hf.1 (hmem.2 hin);unfold Maps.setOf litS at hv;unfold litS at h1;rw [h1] at hv;rw [qfV hb hv]
 | false =>
  have hin:s∉l:=fun h=>by rw [List.any_eq_false] at hh;exact hh s h (by simp)
  have h1:=hf.2 (fun h=>hin (hmem.1 h));unfold Maps.setOf litS at hv;unfold litS at h1;rw [h1] at hv;rw [qfV hb hv]
end Go.Proofs.YtemoddmadfoaiaaGreat
