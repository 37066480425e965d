import Derived.Test.YtooeabibhjbkoaaGreatApQ
import Derived.Test.YtooeabibhjbkoaaGreatBiP
import Derived.Test.YtooeabibhjbkoaaGreatToA
import Derived.Test.YtooeabibhjbkoaaGreatAlC
import Derived.Lib.Slices
set_option linter.unusedVariables false
set_option linter.unusedSimpArgs false
set_option maxRecDepth 100000
namespace Go.Proofs.YtooeabibhjbkoaaGreat
open Go.RowKit Big
section
open Ap
theorem sumL_take_le (ws:List Nat) (k:Nat):sumL (ws.take k)≤sumL ws:=by
 conv=>rhs;rw [←List.take_append_drop k ws]
 rw [sumL_app];omega
end
section
open Ap
theorem Row.below {w w':World} {d off:Nat} {l:List Int} (h:Row w d off l) (hb:Below w.heap.size w w') (hd:d<w.heap.size):Row w' d off l :=
 ⟨fun k x hk=>qcU (h.1 k x hk) hb,fun o=>by rw [hb.frozen (by simpa using hd)];exact h.2 o⟩
def Laid2 (w wx:World) (b7 bR:Nat) (l7 lR:List Int):Prop:=Row wx b7 0 l7∧Row wx bR 0 lR∧b7≠bR∧w.heap.size≤b7∧w.heap.size≤bR∧b7<wx.heap.size∧bR<wx.heap.size∧Below w.heap.size w wx
section
variable {w wx:World} {b7 bR:Nat} {l7 lR:List Int}
theorem Laid2.set7 (h:Laid2 w wx b7 bR l7 lR) (k:Nat) (x:Int):Laid2 w (wx.setCell ⟨b7,k,none⟩ (.int .i64 x)) b7 bR (l7.set k x) lR:=by
 obtain ⟨h1,h2,h3,h4,h5,h6,h7,h8⟩:=h
 exact ⟨h1.set0 k x,h2.setOther _ _ (by simpa using h3),h3,h4,h5,by simpa using h6,by simpa using h7,below_set h8 _ _ (by simpa using h4)⟩
theorem Laid2.setR (h:Laid2 w wx b7 bR l7 lR) (k:Nat) (x:Int):Laid2 w (wx.setCell ⟨bR,k,none⟩ (.int .i64 x)) b7 bR l7 (lR.set k x):=by
 obtain ⟨h1,h2,h3,h4,h5,h6,h7,h8⟩:=h
 exact ⟨h1.setOther _ _ (by simpa using Ne.symm h3),h2.set0 k x,h3,h4,h5,by simpa using h6,by simpa using h7,below_set h8 _ _ (by simpa using h5)⟩
theorem Laid2.below {wy:World} (h:Laid2 w wx b7 bR l7 lR) (hb:Below wx.heap.size wx wy):Laid2 w wy b7 bR l7 lR:=by
 obtain ⟨h1,h2,h3,h4,h5,h6,h7,h8⟩:=h
 exact ⟨h1.below hb h6,h2.below hb h7,h3,h4,h5,Nat.lt_of_lt_of_le h6 hb.size,Nat.lt_of_lt_of_le h7 hb.size,h8.trans (hb.mono h8.size)⟩
theorem Laid2.drewN (h:Laid2 w wx b7 bR l7 lR) (q:Nat):Laid2 w (wx.drewN q) b7 bR l7 lR:=h.below (below_drewN (Below.refl _ _) q)
end
theorem take_sum {ws:List Nat} {k x:Nat} (hx:ws[k]?=some x):sumL (ws.take (k+1))=sumL (ws.take k)+x:=by
 rw [List.take_add_one,hx,sumL_app];simp [sumL]
end
end Go.Proofs.YtooeabibhjbkoaaGreat
namespace Go.Proofs.YtooeabibhjbkoaaGreat
open Go.RowKit Ap
end Go.Proofs.YtooeabibhjbkoaaGreat
namespace Go.Proofs.YtooeabibhjbkoaaGreat
open Go.RowKit Ap
end Go.Proofs.YtooeabibhjbkoaaGreat
set_option maxHeartbeats 2000000
namespace Go.Proofs.YtooeabibhjbkoaaGreat
open Go.RowKit Ap
open Lib (hid)
theorem clone_any (n:Nat) (xs:List Value) (v:Value) (w:World) (hr:Reads w 1 v n xs) (h0:1≤n) (hbig:n≤1000) (h1:∀ u∈xs,u.oneCell'=true) :
  Calls Tryz.prog 64 #[v] w fun e w'=>∃ v',e=.returned v'∧w'.ownsRow w.heap.size 3 1 v' n xs∧Below w.heap.size w w':=by
 obtain ⟨g,off,cap,rfl,hc⟩:=hr.some (by omega)
 have hlen:xs.length=n:=by have:=hr.1;omega
 obtain ⟨i0,hi,hz0,hz1,hz2⟩:=info_parts Tryz.info3
 have q22:∀ (w:World) (a:Option Addr) (n c n' c':Nat),(binOp .eql 30 (.slice a n c) (.slice none n' c')).run Tryz.prog w=.ok (.bool a.isNone) w:=fun w a n c n' c'=>Lib.run_eql_slice_nil w _ _ a n c n' c' Tryz.underlying30
 have HC:=hid hc
 have HL:=hid hlen
 have H1:=hid h1
 clear hr hc hlen h1
 go_enter Tryz.func64,Tryz.ntmps64
 go_wp2_with (at_builtin;refine wpList_append_own _ rfl _ _ 30 rfl w.heap.size 3 i0 (.int .i64 0) 1 8 Tryz.underlying30 hi hz0 hz1 hz2 rfl (by decide) _ _ _ rfl (World.ownsRow_made w #[] 0 (Nat.le_refl _) (Nat.zero_le _) rfl) ⟨g,off,none⟩ n cap xs rfl ?qc1 ?qc2 ?qc3 ?qc4 ?qc5 ?qc6 ?_)
 case qc1=>rw [HL.out];omega
 case qc2 =>
  intro j u hj
  have hadd:(⟨g,off,none⟩:Addr).add j=⟨g,off+j,none⟩:=by unfold Addr.add;split<;>simp_all
  rw [hadd]
  exact cell_alloc (HC.out j u hj) _
 case qc3=>exact H1.out
 case qc4=>exact small_maxLen (by omega)
 case qc5=>omega
 case qc6=>simp
 intro v' w1 hown hgrow hnil
 have HH:=hid (show w1.ownsRow w.heap.size 3 1 v' n xs by simpa using hown)
 have HG:=hid hgrow
 clear hown hgrow hnil
 go_wp2
 go_ret
 exact ⟨v',rfl,HH.out,((Below.refl _ w).alloc (Nat.le_refl _) _).grown HG.out (by simp) (by intro k hk;simp [Value.ownBlock] at hk;omega)⟩
def CapP (T n:Nat) (ws:List Nat) (w:World) (e:Ending) (w':World):Prop :=
 ∃ (v:Value) (p:List Nat),e=.returned (.tuple #[v,.int .i64 0])∧Reads w' 1 v n (cellsN p)∧Below w.heap.size w w'∧p.length=n∧((sumL ws≤T∧p=ws)∨(T<sumL ws∧Parts T ws p))
theorem reads_rowN {w:World} {g n cap:Nat} {p:List Nat} (h:Row w g 0 (p.map Int.ofNat)) (hl:p.length=n) (hn:n≤1000000):Reads w 1 (.slice (some ⟨g,0,none⟩) n cap) n (cellsN p):=by
 have:=reads_row (cap:=cap) h (by rw [List.length_map];exact hl) hn
 rw [List.map_map] at this
 exact this
theorem cap_any (T n:Nat) (ws:List Nat) (v:Value) (w:World) (h:Valid w v n ws) (hT:T≤1000000000000000) :
  Calls Tryz.prog 35 #[.int .i64 T,v] w (CapP T n ws w):=by
 have q1:¬(T:Int)<0:=by omega
 have q2:¬(1000000000000000:Int)<T:=by omega
 have hsb:=h.sum
 have hn19:=h.small
 have hn1:=h.pos
 have HV:=hid h
 have HCK:=hid (check_ok n ws v w h)
 clear h
 by_cases hle:sumL ws≤T
 ·obtain ⟨s,hs⟩:∃ s,s=sumL ws:=⟨_,rfl⟩
  rw [←hs] at HCK hsb hle
  have hle':(s:Int)≤T:=by omega
  have HS:=hid hs
  clear hs hle
  go_enter Tryz.func35,Tryz.ntmps35
  go_wp2_with (go_at_call 63;refine HCK.out.mono ?_;rintro e w' ⟨rfl,rfl⟩)
  refine (clone_any n (cellsN ws) v w HV.out.reads HV.out.pos (by omega) (by intro u hu;obtain ⟨x,_,rfl⟩:=List.mem_map.1 hu;rfl)).mono ?_
  rintro e w' ⟨v',rfl,hown,hb⟩
  have HH:=hid (And.intro hown hb)
  clear hown hb
  go_wp2
  go_ret2
  exact ⟨v',ws,rfl,Reads.of_own HH.out.1,HH.out.2,HV.out.len,.inl ⟨by rw [←HS.out];omega,rfl⟩⟩
 ·have HD:=hid (divide_good T n ws v w HV.out (by omega) hT)
  have HLT:=hid (show T<sumL ws by omega)
  obtain ⟨s,hs⟩:∃ s,s=sumL ws:=⟨_,rfl⟩
  rw [←hs] at HCK HD hsb hle
  have hle':¬(s:Int)≤T:=by omega
  clear hs hle
  go_enter Tryz.func35,Tryz.ntmps35
  go_wp2_with (go_at_call 63;refine HCK.out.mono ?_;rintro e w' ⟨rfl,rfl⟩)
  refine HD.out.mono ?_
  rintro e w' ⟨g,l,h1,h2,rfl,h4,⟨p,hp,rfl⟩,h6⟩
  have HH:=hid (And.intro h4 (And.intro hp h6))
  clear h1 h2 h4 hp h6
  go_wp2
  go_ret2
  have hl:p.length=n:=by obtain ⟨o,_,_,h,_⟩:=HH.out.2.1;rw [h];exact HV.out.len
  exact ⟨_,p,rfl,reads_rowN HH.out.1 hl (by omega),HH.out.2.2,hl,.inr ⟨HLT.out,HH.out.2.1⟩⟩
end Go.Proofs.YtooeabibhjbkoaaGreat
