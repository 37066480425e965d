import Derived.Test.YtmcekgapelanhaaGreatRcL
import Derived.Test.YtmcekgapelanhaaGreatAlM
set_option linter.unusedVariables false
set_option linter.unusedSimpArgs false
set_option maxRecDepth 100000
set_option maxHeartbeats 8000000
namespace Go.Proofs.YtmcekgapelanhaaGreat
open Go.RowKit Big Al Tok Ap
open Lib (hid)
theorem addr_pm (g o j:Nat):(⟨g,o,none⟩:Addr).add j=⟨g,o+j,none⟩:=by unfold Addr.add;split<;>simp_all
theorem isRat_len {c:List Value} (h:IsRat c):c.length=66:=by obtain ⟨_,_,_,_,h,_⟩:=h;rw [h];simp [rat,qlL]
theorem plays_law (a:Option Addr) (len cap:Nat) (z:List Int) (w:World) (hr:IsRow .i64 w a len cap z) :
  Calls Tryz.prog 4 #[.slice a len cap] w fun e w'=>e=.returned (.bool true)∧Below w.heap.size w w':=by
 have ht0:=hr.tape 44
 clear hr
 go_enter Tryz.func4,Tryz.ntmps4
 go_wp2_with fail
 refine (books_any w.heap.size 0 _ ht0 (by omega)).mono ?_
 rintro e w1 ⟨v,l,at1,rfl,hD,hown,ht1,ha1,hg1⟩
 have hB1:=((Below.refl w.heap.size w).alloc (Nat.le_refl _) (.cells #[.slice a len cap,.int .i64 0] 44)).trans (below_grownBy hg1 (Nat.le_refl _) (by simp))
 obtain ⟨bt,hbt⟩:∃ bt,bt=w.heap.size:=⟨_,rfl⟩
 have hown1:w1.ownsRow (bt+1) 47 5 v l.length (cellsB l):=by have:=hown;simp at this;rw [hbt];exact this
 clear hown ht0 hg1
 rw [←hbt] at ht1 ⊢
 obtain ⟨n,hn⟩:∃ n,n=l.length:=⟨_,rfl⟩
 have hl:=hD.len
 rw [←hn] at hown1 hl
 obtain ⟨g,cp,rfl,hgb,hgl⟩:=form_own hown1 (by omega)
 have HBT:=hid hbt
 have HO:=hid hown1
 have HD:=hid (And.intro hD hn)
 have HB:=hid hB1
 have HT:=hid ht1
 clear hown1 hB1 hbt hn hgl hD ht1
 go_wp2
 go_loopg [5,6] n (fun m sv iv wr=>∃ (k:Nat) (S:Int),iv=.int .i64 k∧sv=.int .i64 S∧k≤n∧n≤m+k∧-(5000000000*(k:Int))≤S∧S≤5000000000*(k:Int)∧Below w1.heap.size w1 wr)
 case atStart=>exact ⟨0,0,rfl,rfl,by omega,by omega,by omega,by omega,Below.refl _ _⟩
 case round =>
  obtain ⟨k,S,rfl,rfl,hk,hm,hS1,hS2,hbl⟩:=hrel
  have HBL:=hid hbl
  by_cases hkn:k<n
  ·obtain ⟨b,hb⟩:∃ b,l[k]?=some b:=⟨_,List.getElem?_eq_getElem (by rw [←HD.out.2];exact hkn)⟩
   have hm':=HD.out.1.all b (List.mem_of_getElem? hb)
   have h3:=hm'.sum;have h4:=hm'.own;have h5:=hm'.net;have h6:=hm'.flows
   have hcell:∀ j u,b.cells[j]?=some u→wr.cell? ⟨g,k*5+j,none⟩=some u:=fun j u hu=>by
    have:=HO.out.cells rfl (k*5+j) u (cellsB_get l k b hb j u hu)
    rw [addr_pm,Nat.zero_add] at this;exact cU this hbl
   have c1:=hcell 1 _ rfl
   have c2:=hcell 2 _ rfl
   have c3:=hcell 3 _ rfl
   have ww1:IntKind.i64.wrap (b.net+b.flows)=b.net+b.flows:=IntWalk.i64_in _ (by omega)
   have ww2:IntKind.i64.wrap (b.net+b.flows+b.own)=b.net+b.flows+b.own:=IntWalk.i64_in _ (by omega)
   have ww3:IntKind.i64.wrap (S+(b.net+b.flows+b.own))=S+(b.net+b.flows+b.own):=IntWalk.i64_in _ (by omega)
   clear hb hm' hcell hbl
   go_wp2
   go_quiet (fail)
   go_wp2
   go_roundg (gk - 1)
   case measure=>omega
   case rel=>exact ⟨k+1,S+(b.net+b.flows+b.own),by go_num,rfl,by omega,by omega,by omega,by omega,below_drewN HBL.out _⟩
  ·have hSb:-20000000000≤S∧S≤20000000000:=by omega
   replace HB:=hid (HB.out.trans (hbl.mono HB.out.size))
   replace HO:=hid (ownsRow_below HO.out hbl)
   replace HT:=hid (HT.out.below hbl)
   clear HBL hbl hS1 hS2 hm
   obtain ⟨wk,hwk⟩:∃ x,x=wr:=⟨_,rfl⟩
   rw [←hwk] at HB HO HT ⊢
   clear hwk
   go_wp2_with fail
   refine (range_any bt _ (-500) 500 _ HT.out (by omega) (by omega) (by omega) (by omega)).mono ?_
   rintro e w2 ⟨rr,ho1,ho2,rfl,ht2,hg2⟩
   have wsr:IntKind.i64.wrap (S+rr)=S+rr:=IntWalk.i64_in _ (by omega)
   replace HB:=hid (HB.out.trans (below_grownBy hg2 (by rw [HBT.out];exact Nat.le_refl _) HB.out.size))
   replace HO:=hid (own_keptB HO.out hg2 (by omega))
   clear HT hg2
   go_wp2_with fail
   refine (pick_any bt _ w2.heap.size 5 5 [S,S+rr,0,1000000000000000,-1000000000000001] _ rfl (ht2.alloc _) (by omega) (by omega) (by omega) (by have:=ht2.lt;omega) (ints_new w2 [S,S+rr,0,1000000000000000,-1000000000000001] _)).mono ?_
   rintro e w3 ⟨total,_,rfl,ht3,hg3⟩
   have hg3':=grownBy_via (grownBy_refl w2 (some bt)) _ hg3
   replace HB:=hid (HB.out.trans (below_grownBy hg3' (by rw [HBT.out];exact Nat.le_refl _) HB.out.size))
   replace HO:=hid (own_keptB HO.out hg3' (by omega))
   obtain ⟨c0,hc0⟩:∃ c,c=ratZ S 1:=⟨_,rfl⟩
   have HW:=hid (rwholeZ hc0 (by omega) (by omega))
   have HR0:=hid (show IsRat c0 from ⟨_,_,_,_,hc0,by have:=(vq_whole (z:=S) (by omega) (by omega)).num;exact b480_bb this,Nat.one_lt_pow (by omega) (by unfold BB;decide)⟩)
   have HT3:=hid ht3
   clear ht2 hg3 hg3' hc0 wsr ho1 ho2 ht3
   go_wp2_with (go_at_call 18;refine (HW.out _).mono ?_;rintro e w4 ⟨rfl,hb4⟩)
   replace HB:=hid (HB.out.trans (hb4.mono HB.out.size))
   replace HO:=hid (ownsRow_below HO.out hb4)
   have ht4:=HT3.out.below hb4
   clear hb4 HT3
   refine (rratio_any bt _ _ ht4 (by omega)).mono ?_
   rintro e w5 ⟨c1,at5,hR1,rfl,ht5,ha5,hg5⟩
   replace HB:=hid (HB.out.trans (below_grownBy hg5 (by rw [HBT.out];exact Nat.le_refl _) HB.out.size))
   replace HO:=hid (own_keptB HO.out hg5 (by omega))
   have HR1:=hid hR1
   clear ht4 hg5 hR1
   go_wp2_with fail
   refine (rlong_any bt _ _ ht5 (by omega)).mono ?_
   rintro e w6 ⟨c2,at6,hR2,rfl,ht6,ha6,hg6⟩
   replace HB:=hid (HB.out.trans (below_grownBy hg6 (by rw [HBT.out];exact Nat.le_refl _) HB.out.size))
   replace HO:=hid (own_keptB HO.out hg6 (by omega))
   have HR2:=hid hR2
   clear ht5 hg6 hR2
   have HLN:=hid (show ∀ x∈[c0,c1,c2],x.length=66 from fun x hx=>by
    simp only [List.mem_cons,List.not_mem_nil,or_false] at hx
    rcases hx with rfl|rfl|rfl
    ·exact isRat_len HR0.out
    ·exact isRat_len HR1.out
    ·exact isRat_len HR2.out)
   have hlt6:=ht6.lt
   obtain ⟨cs,hcs⟩:∃ cs,cs=c0++(c1++(c2++[])):=⟨_,rfl⟩
   have HCS:=hid hcs
   have HT6:=hid ht6
   clear hcs ht6
   go_wp2_with (refine wpList_buildRows rfl (len:=3) (s:=66) [c0,c1,c2] rfl (by simp [Act.eval,Act.put]) rfl (by decide) (by decide) HLN.out (by decide) Tryz.underlying33 (by kernel_rfl) (by kernel_rfl) ?_)
   have hA:=At.fresh w6 (c0++(c1++c2)) 27 rfl
   have HP:=hid (pickr_any bt at6 w6.heap.size 3 c0 c1 c2 HR0.out HR1.out HR2.out (w6.alloc (.cells (c0++(c1++c2)).toArray 27)) (HT6.out.alloc _) (by omega) (by omega) hA.head.range (At.sub (xs:=c0) (ys:=c1) (zs:=c2) hA (by rw [isRat_len HR0.out])).range (At.tail (xs:=c0++c1) (ys:=c2) (by rw [List.append_assoc];exact hA) (by rw [List.length_append,isRat_len HR0.out,isRat_len HR1.out])).range)
   refine HP.out.mono ?_
   rintro e w7 ⟨cr,at7,⟨ra,rb,rp,rq,hrr,hp,hq⟩,rfl,ht7,ha7,hg7⟩
   have hg7':=grownBy_via (grownBy_refl w6 (some bt)) _ hg7
   replace HB:=hid (HB.out.trans (below_grownBy hg7' (by rw [HBT.out];exact Nat.le_refl _) HB.out.size))
   replace HO:=hid (own_keptB HO.out hg7' (by omega))
   have HEX:=hid (exact_law total l (.slice (some ⟨g,0,none⟩) n cp) w7 (by have h:=Rd.of_own HO.out;unfold BksAt;rw [←HD.out.2];exact h) hrr hp hq)
   clear hA HP hg7 hg7' ht7 hrr hp hq
   go_wp2_with (first|(go_at_call 3;refine HEX.out.mono ?_;rintro e w8 ⟨rfl,hb8⟩)|(go_at_call 11;refine (known_any _).mono ?_;rintro e w9 ⟨rfl,hb9⟩))
   go_ret
   have h89:=hb8.trans (hb9.mono hb8.size)
   exact ⟨rfl,HB.out.trans (h89.mono HB.out.size)⟩
end Go.Proofs.YtmcekgapelanhaaGreat
