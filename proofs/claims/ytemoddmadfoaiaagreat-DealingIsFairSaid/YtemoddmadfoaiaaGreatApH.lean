import Derived.Test.YtemoddmadfoaiaaGreatApE
import Derived.Deep.OwnRows
import Derived.Deep.CutRange
set_option linter.unusedVariables false
set_option linter.unusedSimpArgs false
namespace Go.Proofs.YtemoddmadfoaiaaGreat
open Go.RowKit Ap
theorem Row.alloc {w:World} {d off:Nat} {l:List Int} (h:Row w d off l) (o:Obj) (hd:d<w.heap.size):Row (w.alloc o) d off l:=h.grown (World.grownBy_alloc w o none) (by simp) hd
theorem Row.setOther {w:World} {d off:Nat} {l:List Int} (h:Row w d off l) (p:Addr) (v:Value) (hp:p.block≠d):Row (w.setCell p v) d off l :=
 ⟨fun k x hk=>by rw [World.cell?_setCell_other _ _ _ _ (fun e=>hp (by first|(rw [e])|(rw [←e])))];exact h.1 k x hk,fun o=>by rw [World.frozen?_setCell];exact h.2 o⟩
theorem Row.drew {w:World} {d off:Nat} {l:List Int} (h:Row w d off l):Row w.drew d off l:=h
theorem qpL {B:Nat} {w w':World} (h:Below B w w'):Below B w w'.drew:=⟨h.os,h.tape,h.output,h.size,h.block⟩
def Laid3 (w wx:World) (n b7 b8 b9 bR:Nat) (l7 lR l9:List Int):Prop :=
 Row wx b7 0 l7∧Row wx bR 0 lR∧Row wx b9 0 l9∧wx.cell? ⟨b8,0,none⟩=some (.slice (some ⟨bR,0,none⟩) n n)∧b7≠b8∧b7≠b9∧b7≠bR∧b8≠b9∧b8≠bR∧b9≠bR ∧
 w.heap.size≤b7∧w.heap.size≤b8∧w.heap.size≤b9∧w.heap.size≤bR∧b7<wx.heap.size∧b8<wx.heap.size∧b9<wx.heap.size∧bR<wx.heap.size∧Below w.heap.size w wx
theorem qbK {B:Nat} {w w':World} (h:Below B w w') (p:Addr) (v:Value) (hp:B≤p.block):Below B w (w'.setCell p v) :=
 ⟨h.os,h.tape,h.output,by have:=h.size;simpa using this,fun k hk=>by rw [Below.heap_setCell _ _ _ _ (by omega)];exact h.block k hk⟩
section
variable {w wx:World} {n b7 b8 b9 bR:Nat} {l7 lR l9:List Int}
theorem Laid3.drewN (h:Laid3 w wx n b7 b8 b9 bR l7 lR l9) (k:Nat):Laid3 w (wx.drewN k) n b7 b8 b9 bR l7 lR l9:=by
 obtain ⟨h1,h2,h3,h4,h5,h6,h7,h8,h9,h10,h11,h12,h13,h14,h15,h16,h17,h18,h19⟩:=h;exact ⟨h1,h2,h3,h4,h5,h6,h7,h8,h9,h10,h11,h12,h13,h14,h15,h16,h17,h18,below_drewN h19 k⟩
theorem Laid3.drew (h:Laid3 w wx n b7 b8 b9 bR l7 lR l9):Laid3 w wx.drew n b7 b8 b9 bR l7 lR l9:=by
 obtain ⟨h1,h2,h3,h4,h5,h6,h7,h8,h9,h10,h11,h12,h13,h14,h15,h16,h17,h18,h19⟩:=h;exact ⟨h1,h2,h3,h4,h5,h6,h7,h8,h9,h10,h11,h12,h13,h14,h15,h16,h17,h18,qpL h19⟩
end
structure Valid (w:World) (v:Value) (n:Nat) (ws:List Nat):Prop where
 reads:Reads w 1 v n (ws.map (fun (x:Nat)=>Value.int .i64 (x:Int)))
 len:ws.length=n
 pos:1≤n
 small:n≤19
 all:∀ x∈ws,x≤1000000000000000
theorem Valid.below {w w':World} {v:Value} {n:Nat} {ws:List Nat} (h:Valid w v n ws) (hb:Below w.heap.size w w'):Valid w' v n ws:=⟨h.reads.below hb,h.len,h.pos,h.small,h.all⟩
theorem Valid.sum {w:World} {v:Value} {n:Nat} {ws:List Nat} (h:Valid w v n ws):sumL ws≤19000000000000000:=by
 have:=qvA h.all
 have:=h.len
 have:=h.small
 have:ws.length*1000000000000000≤19*1000000000000000:=Nat.mul_le_mul_right _ (by omega)
 omega
def GoodD (t:Nat) (ws:List Nat) (l:List Int):Prop:=∃ p,Parts t ws p∧l=p.map Int.ofNat
def GoodS (t:Nat) (ws:List Nat) (l:List Int):Prop:=l=spreadL t (sumL ws) 0 0 ws
theorem GoodD.bd {t:Nat} {ws:List Nat} {l:List Int} (h:GoodD t ws l) (hs:0<sumL ws) (ht:t≤1000000000000000):l.length=ws.length∧∀ x∈l,-10000000000000000≤x∧x≤10000000000000000:=by
 obtain ⟨p,hp,rfl⟩:=h;have hsum:=qwK hs hp;obtain ⟨o,_,_,hl,_⟩:=hp;refine ⟨by simp [hl],fun x hx=>?_⟩;obtain ⟨y,hy,rfl⟩:=List.mem_map.1 hx
 have:=jaE hy
 constructor
 ·have:(0:Int)≤Int.ofNat y:=Int.natCast_nonneg y
  omega
 ·show (y:Int)≤_
  omega
theorem jgP (t s c:Nat) (hc:c≤s) (hs:0<s):rnd t s c≤t+1:=by
 have h:=(jgO t s c).2
 have:t*c / s≤t:=Nat.div_le_of_le_mul (by rw [Nat.mul_comm s];exact Nat.mul_le_mul_left _ hc)
 omega
theorem qsY (t s:Nat) (hs:0<s) (ht:t≤1000000000000000):∀ (ws:List Nat) (b c:Nat),c+sumL ws≤s→b≤1000000000000001→∀ x∈spreadL t s b c ws,-10000000000000000≤x∧x≤10000000000000000:=by
 intro ws
 induction ws with
 | nil=>intro b c _ _ x hx;simp [spreadL] at hx
 | cons w ws ih =>
  intro b c hc hb x hx;simp only [sumL] at hc;have h1:=jgP t s (c+w) (by omega) hs;rcases List.mem_cons.1 hx with rfl|hx
  ·omega
  ·exact ih _ _ (by omega) (by omega) x hx
theorem GoodS.bd {t:Nat} {ws:List Nat} {l:List Int} (h:GoodS t ws l) (hs:0<sumL ws) (ht:t≤1000000000000000):l.length=ws.length∧∀ x∈l,-10000000000000000≤x∧x≤10000000000000000:=by
 unfold GoodS at h;subst h;exact ⟨qsX _ _ _ _ _,qsY t _ hs ht ws 0 0 (by omega) (by omega)⟩
end Go.Proofs.YtemoddmadfoaiaaGreat
