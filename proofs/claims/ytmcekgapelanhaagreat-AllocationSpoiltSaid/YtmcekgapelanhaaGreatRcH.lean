import Derived.Test.YtmcekgapelanhaaGreatRcG
import Derived.Test.YtmcekgapelanhaaGreatAlM
import Derived.Test.YtmcekgapelanhaaGreatAlR
set_option linter.unusedVariables false
set_option linter.unusedSimpArgs false
set_option maxRecDepth 100000
set_option maxHeartbeats 8000000
namespace Go.Proofs.YtmcekgapelanhaaGreat
open Go.RowKit Big Al Tok Ap
open Lib (hid)
theorem addr_pl (g o j:Nat):(⟨g,o,none⟩:Addr).add j=⟨g,o+j,none⟩:=by unfold Addr.add;split<;>simp_all
theorem strs_new (w:World) (l:List ByteArray) (t:TypeId):∀ j u,l[j]?=some u→(w.alloc (.cells (l.map Value.string).toArray t)).cell? ⟨w.heap.size,j,none⟩=some (.string u):=by
 intro j u hu
 rw [cell_of_row _ w.heap.size j _ t (0,0) (heap_alloc_new w _)]
 simp [hu]
theorem one_any (bt at_:Nat) (g cap:Nat) (l:List ByteArray) (w:World) (ht:IsTape w bt at_) (hat:at_<1000000000000000000) (hl:0<l.length) (hl2:l.length≤1000000000) (hg:g≠bt)
  (hc:∀ j u,l[j]?=some u→w.cell? ⟨g,j,none⟩=some (.string u)) :
  Calls Tryz.prog 22 #[.pointer (some ⟨bt,0,none⟩),.slice (some ⟨g,0,none⟩) l.length cap] w fun e w'=>∃ s,s∈l∧e=.returned (.string s)∧IsTape w' bt (at_+1)∧w.grownBy w' (some bt):=by
 have hz:((l.length:Int)==0)=false:=beq_eq_false_iff_ne.2 (by omega)
 have HC:=hid hc
 have HL:=hid hl
 clear hc hl
 go_enter Tryz.func22,Tryz.ntmps22
 go_wp2_with fail
 refine (next_any bt at_ l.length w ht hat (by omega)).mono ?_
 rintro e w1 ⟨v,rfl,ht1,hg1⟩
 have hb:=foldI_bd v l.length (by have:=HL.out;omega)
 obtain ⟨k,hk⟩:∃ k:Nat,foldI v l.length=k:=⟨(foldI v l.length).toNat,by omega⟩
 rw [hk] at hb ⊢
 have hlt:k<l.length:=by omega
 have hc1:w1.cell? ⟨g,k,none⟩=some (.string l[k]):=hg1.cell (HC.out k l[k] (by simp [hlt])) (by simpa using hg)
 clear hk
 go_wp2
 go_ret
 exact ⟨l[k],by simp,rfl,ht1,hg1⟩
theorem spoilt_law (a:Option Addr) (len cap:Nat) (z:List Int) (nn:Int) (w:World) (hr:IsRow .i64 w a len cap z) :
  Calls Tryz.prog 5 #[.slice a len cap,.int .i64 nn] w fun e w'=>e=.returned (.bool true)∧Below w.heap.size w w':=by
 have ht0:=hr.tape 44
 clear hr
 go_enter Tryz.func5,Tryz.ntmps5
 go_wp2_with fail
 refine (books_any w.heap.size 0 _ ht0 (by omega)).mono ?_
 rintro e w1 ⟨v,l,at1,rfl,hD,hown,ht1,ha1,hg1⟩
 have hB1:=((Below.refl w.heap.size w).alloc (Nat.le_refl _) (.cells #[.slice a len cap,.int .i64 0] 44)).trans (below_grownBy hg1 (Nat.le_refl _) (by simp))
 obtain ⟨bt,hbt⟩:∃ bt,bt=w.heap.size:=⟨_,rfl⟩
 have hown1:w1.ownsRow (bt+1) 47 5 v l.length (cellsB l):=by have:=hown;simp at this;rw [hbt];exact this
 clear hown ht0 hg1
 rw [←hbt] at ht1 ⊢
 obtain ⟨n,hn⟩:∃ n,n=l.length:=⟨_,rfl⟩
 have hl:=hD.len
 rw [←hn] at hown1 hl
 obtain ⟨g,cp,rfl,hgb,hgl⟩:=form_own hown1 (by omega)
 have HBT:=hid hbt
 have HO:=hid hown1
 have HN:=hid hn
 have HB:=hid hB1
 clear hown1 hB1 hbt hn hgl hD
 go_wp2_with fail
 refine (next_any bt _ (n:Int) _ ht1 (by omega) (by omega)).mono ?_
 rintro e w2 ⟨u2,rfl,ht2,hg2⟩
 have hb2:=foldI_bd u2 (n:Int) (by omega)
 generalize foldI u2 (n:Int)=fi at *
 obtain ⟨i,rfl⟩:=Int.eq_ofNat_of_zero_le hb2.1
 have hin:i<n:=by omega
 replace HB:=hid (HB.out.trans (below_grownBy hg2 (by rw [HBT.out];exact Nat.le_refl _) HB.out.size))
 replace HO:=hid (own_keptB HO.out hg2 (by omega))
 clear ht1 hg2 hb2
 go_wp2_with fail
 refine (pick_any bt _ w2.heap.size 5 5 [nn,-1,1000000000000000,1000000000000001,-1000000000000000] _ rfl (ht2.alloc _) (by omega) (by omega) (by omega) (by have:=ht2.lt;omega) (ints_new w2 [nn,-1,1000000000000000,1000000000000001,-1000000000000000] _)).mono ?_
 rintro e w3 ⟨kv,_,rfl,ht3,hg3⟩
 have hg3':=grownBy_via (grownBy_refl w2 (some bt)) _ hg3
 replace HB:=hid (HB.out.trans (below_grownBy hg3' (by rw [HBT.out];exact Nat.le_refl _) HB.out.size))
 replace HO:=hid (own_keptB HO.out hg3' (by omega))
 clear ht2 hg3 hg3'
 go_wp2_with fail
 refine (next_any bt _ 6 _ ht3 (by omega) (by omega)).mono ?_
 rintro e w4 ⟨u4,rfl,ht4,hg4⟩
 have hb4:=foldI_bd u4 6 (by omega)
 generalize foldI u4 6=ci at *
 replace HB:=hid (HB.out.trans (below_grownBy hg4 (by rw [HBT.out];exact Nat.le_refl _) HB.out.size))
 replace HO:=hid (own_keptB HO.out hg4 (by omega))
 clear ht3 hg4
 obtain ⟨x,hx⟩:∃ b,l[i]?=some b:=⟨_,List.getElem?_eq_getElem (by rw [←HN.out];exact hin)⟩
 have HX:=hid hx
 have hgl4:g<w4.heap.size:=(HO.out.lt g rfl).2
 clear hx
 go_upto_block 0 with fail
 go_cut [6] from 26 to 62 (fun sv wx=>∃ (l':List Bk) (at':Nat),wx.ownsRow (bt+1) 47 5 sv l'.length (cellsB l')∧IsTape wx bt at'∧at'≤at1+10∧Below w.heap.size w wx)
 case first =>
  have hc:ci=0∨ci=1∨ci=2∨ci=3∨ci=4∨ci=5:=by omega
  rcases hc with rfl|rfl|rfl|rfl|rfl|rfl
  ·go_wp2_with fail
   refine (one_any bt _ w4.heap.size 3 [⟨#[]⟩,⟨#[65]⟩,⟨#[97]⟩] _ (ht4.alloc _) (by omega) (by decide) (by decide) (by have:=ht4.lt;omega) (strs_new w4 [⟨#[]⟩,⟨#[65]⟩,⟨#[97]⟩] _)).mono ?_
   rintro e w5 ⟨s,_,rfl,ht5,hg5⟩
   have hg5':=grownBy_via (grownBy_refl w4 (some bt)) _ hg5
   replace HB:=hid (HB.out.trans (below_grownBy hg5' (by rw [HBT.out];exact Nat.le_refl _) HB.out.size))
   replace HO:=hid (own_keptB HO.out hg5' (by omega))
   clear hg5 hg5' hb4
   have hcj:w5.cell? ⟨g,i*5,none⟩=some (.string x.name):=by
    have:=HO.out.cells rfl (i*5+0) (.string x.name) (cellsB_get l i x HX.out 0 _ rfl)
    rwa [addr_pl,Nat.zero_add] at this
   have hfj:w5.frozen? ⟨g,i*5,none⟩=false:=HO.out.frozenAt _
   have hst:=HO.out.stored (i*5) (.string s)
   have hcs:=cellsB_set l i x { x with name:=s } 0 (.string s) HX.out rfl (by omega)
   rw [Nat.add_zero] at hcs
   rw [←hcs] at hst
   have HST:=hid (show (w5.setCell ⟨g,i*5,none⟩ (.string s)).ownsRow (bt+1) 47 5 (.slice (some ⟨g,0,none⟩) n cp) (l.set i { x with name:=s }).length (cellsB (l.set i { x with name:=s })) by rw [List.length_set,←HN.out];exact hst.1)
   have HTS:=hid (IsTape.grown ht5 hst.2 (fun k hk=>by injection hk with hk;omega))
   have HBS:=hid (HB.out.grown hst.2 HB.out.size (fun q hq=>by injection hq with hq;rw [←HBT.out];omega))
   clear hst hcs
   go_wp2
   go_meet
   exact ⟨l.set i { x with name:=s },_,HST.out,HTS.out,by omega,HBS.out⟩
  ·clear hb4
   have hcj:w4.cell? ⟨g,i*5+1,none⟩=some (.int .i64 x.net):=by
    have:=HO.out.cells rfl (i*5+1) (.int .i64 x.net) (cellsB_get l i x HX.out 1 _ rfl)
    rwa [addr_pl,Nat.zero_add] at this
   have hfj:w4.frozen? ⟨g,i*5+1,none⟩=false:=HO.out.frozenAt _
   have hst:=HO.out.stored (i*5+1) (.int .i64 kv)
   have hcs:=cellsB_set l i x { x with net:=kv } 1 (.int .i64 kv) HX.out rfl (by omega)
   rw [←hcs] at hst
   have HST:=hid (show (w4.setCell ⟨g,i*5+1,none⟩ (.int .i64 kv)).ownsRow (bt+1) 47 5 (.slice (some ⟨g,0,none⟩) n cp) (l.set i { x with net:=kv }).length (cellsB (l.set i { x with net:=kv })) by rw [List.length_set,←HN.out];exact hst.1)
   have HTS:=hid (IsTape.grown ht4 hst.2 (fun k hk=>by injection hk with hk;omega))
   have HBS:=hid (HB.out.grown hst.2 HB.out.size (fun q hq=>by injection hq with hq;rw [←HBT.out];omega))
   clear hst hcs
   go_wp2
   go_meet
   exact ⟨l.set i { x with net:=kv },_,HST.out,HTS.out,by omega,HBS.out⟩
  ·clear hb4
   have hcj:w4.cell? ⟨g,i*5+2,none⟩=some (.int .i64 x.flows):=by
    have:=HO.out.cells rfl (i*5+2) (.int .i64 x.flows) (cellsB_get l i x HX.out 2 _ rfl)
    rwa [addr_pl,Nat.zero_add] at this
   have hfj:w4.frozen? ⟨g,i*5+2,none⟩=false:=HO.out.frozenAt _
   have hst:=HO.out.stored (i*5+2) (.int .i64 kv)
   have hcs:=cellsB_set l i x { x with flows:=kv } 2 (.int .i64 kv) HX.out rfl (by omega)
   rw [←hcs] at hst
   have HST:=hid (show (w4.setCell ⟨g,i*5+2,none⟩ (.int .i64 kv)).ownsRow (bt+1) 47 5 (.slice (some ⟨g,0,none⟩) n cp) (l.set i { x with flows:=kv }).length (cellsB (l.set i { x with flows:=kv })) by rw [List.length_set,←HN.out];exact hst.1)
   have HTS:=hid (IsTape.grown ht4 hst.2 (fun k hk=>by injection hk with hk;omega))
   have HBS:=hid (HB.out.grown hst.2 HB.out.size (fun q hq=>by injection hq with hq;rw [←HBT.out];omega))
   clear hst hcs
   go_wp2
   go_meet
   exact ⟨l.set i { x with flows:=kv },_,HST.out,HTS.out,by omega,HBS.out⟩
  ·clear hb4
   have hcj:w4.cell? ⟨g,i*5+3,none⟩=some (.int .i64 x.own):=by
    have:=HO.out.cells rfl (i*5+3) (.int .i64 x.own) (cellsB_get l i x HX.out 3 _ rfl)
    rwa [addr_pl,Nat.zero_add] at this
   have hfj:w4.frozen? ⟨g,i*5+3,none⟩=false:=HO.out.frozenAt _
   have hst:=HO.out.stored (i*5+3) (.int .i64 kv)
   have hcs:=cellsB_set l i x { x with own:=kv } 3 (.int .i64 kv) HX.out rfl (by omega)
   rw [←hcs] at hst
   have HST:=hid (show (w4.setCell ⟨g,i*5+3,none⟩ (.int .i64 kv)).ownsRow (bt+1) 47 5 (.slice (some ⟨g,0,none⟩) n cp) (l.set i { x with own:=kv }).length (cellsB (l.set i { x with own:=kv })) by rw [List.length_set,←HN.out];exact hst.1)
   have HTS:=hid (IsTape.grown ht4 hst.2 (fun k hk=>by injection hk with hk;omega))
   have HBS:=hid (HB.out.grown hst.2 HB.out.size (fun q hq=>by injection hq with hq;rw [←HBT.out];omega))
   clear hst hcs
   go_wp2
   go_meet
   exact ⟨l.set i { x with own:=kv },_,HST.out,HTS.out,by omega,HBS.out⟩
  ·clear hb4
   have hcj:w4.cell? ⟨g,i*5+4,none⟩=some (.int .i64 x.units):=by
    have:=HO.out.cells rfl (i*5+4) (.int .i64 x.units) (cellsB_get l i x HX.out 4 _ rfl)
    rwa [addr_pl,Nat.zero_add] at this
   have hfj:w4.frozen? ⟨g,i*5+4,none⟩=false:=HO.out.frozenAt _
   have hst:=HO.out.stored (i*5+4) (.int .i64 kv)
   have hcs:=cellsB_set l i x { x with units:=kv } 4 (.int .i64 kv) HX.out rfl (by omega)
   rw [←hcs] at hst
   have HST:=hid (show (w4.setCell ⟨g,i*5+4,none⟩ (.int .i64 kv)).ownsRow (bt+1) 47 5 (.slice (some ⟨g,0,none⟩) n cp) (l.set i { x with units:=kv }).length (cellsB (l.set i { x with units:=kv })) by rw [List.length_set,←HN.out];exact hst.1)
   have HTS:=hid (IsTape.grown ht4 hst.2 (fun k hk=>by injection hk with hk;omega))
   have HBS:=hid (HB.out.grown hst.2 HB.out.size (fun q hq=>by injection hq with hq;rw [←HBT.out];omega))
   clear hst hcs
   go_wp2
   go_meet
   exact ⟨l.set i { x with units:=kv },_,HST.out,HTS.out,by omega,HBS.out⟩
  ·obtain ⟨i0,hi,hz0,hz1,hz2⟩:=info_parts Tryz.infoB5
   have hn4:n≤4:=hl.2
   clear hb4
   obtain ⟨cs,hcs⟩:∃ cs,cs=cellsB [⟨⟨#[101]⟩,1,0,0,0⟩,⟨⟨#[102]⟩,1,0,0,0⟩]:=⟨_,rfl⟩
   have HCS:=hid hcs
   clear hcs
   go_wp2_with (at_builtin;refine wpList_append_own _ rfl _ _ 28 rfl (bt+1) 47 i0 _ 5 48 Tryz.underlying28 hi hz0 hz1 hz2 rfl (by decide) _ _ _ rfl (World.ownsRow.alloc HO.out _) ⟨w4.heap.size,0,none⟩ 2 2 cs rfl (by rw [HCS.out];rfl) ?_ ?_ ?_ ?_ ?_ ?_;(rw [HCS.out];exact cells_new _ _ _);(rw [HCS.out];simp [Value.oneCell',cellsB,Bk.cells]);exact small_maxLen (by omega);omega;(simp;omega);intro v' w6 hown' hgrow _)
   have HST:=hid (show w6.ownsRow (bt+1) 47 5 v' (l++[(⟨⟨#[101]⟩,1,0,0,0⟩:Bk),⟨⟨#[102]⟩,1,0,0,0⟩]).length (cellsB (l++[⟨⟨#[101]⟩,1,0,0,0⟩,⟨⟨#[102]⟩,1,0,0,0⟩])) by
    have h:=hown'
    rw [List.length_append,←HN.out,show cellsB (l++[⟨⟨#[101]⟩,1,0,0,0⟩,⟨⟨#[102]⟩,1,0,0,0⟩])=cellsB l++cs by rw [HCS.out];simp [cellsB]]
    exact h)
   have HTS:=hid (IsTape.grown (ht4.alloc _) hgrow (fun q hq=>by have:=(HO.out.lt q hq).1;omega))
   have HBS:=hid ((HB.out.alloc HB.out.size _).grown hgrow (by have:=HB.out.size;simp;omega) (fun q hq=>by have:=(HO.out.lt q hq).1;have:=HBT.out;omega))
   clear hown' hgrow hi hz0 hz1 hz2
   go_meet
   exact ⟨l++[⟨⟨#[101]⟩,1,0,0,0⟩,⟨⟨#[102]⟩,1,0,0,0⟩],_,HST.out,HTS.out,by omega,HBS.out⟩
 case rest =>
  obtain ⟨l',at',hbk,ht5,hat,hB⟩:=hcut
  clear HB HO hgl4 ht4
  have HB:=hid hB
  have HO:=hid hbk
  have hlt:=ht5.lt
  clear hB hbk
  go_wp2_with fail
  refine (range_any bt _ (-1000) 1000 _ ht5 (by omega) (by omega) (by omega) (by omega)).mono ?_
  rintro e w6 ⟨total,ho1,ho2,rfl,ht6,hg6⟩
  replace HB:=hid (HB.out.trans (below_grownBy hg6 (by rw [HBT.out];exact Nat.le_refl _) HB.out.size))
  replace HO:=hid (own_keptB HO.out hg6 (by omega))
  clear ht5 ht6 hg6
  obtain ⟨k1,V_k1⟩:∃ c:List Value,Hid (c=ratZ 1 1):=⟨_,hid rfl⟩
  have HONE:=hid (roneQ V_k1.out)
  have HEX:=hid (fun (W:World) (h:Below w6.heap.size w6 W)=>exact_law (cr:=k1) (n:=decide ((1:Int)<0)) (p:=(1:Int).natAbs) (m:=false) (q:=1) total l' _ W (Rd.of_own (ownsRow_below HO.out h)) V_k1.out (Nat.one_lt_pow (by omega) (by unfold BB;decide)) (Nat.one_lt_pow (by omega) (by unfold BB;decide)))
  go_wp2_with (first|(go_at_call 23;refine (HONE.out _).mono ?_;rintro e w7 ⟨rfl,hb7⟩)|(go_at_call 3;refine (HEX.out _ hb7).mono ?_;rintro e w8 ⟨rfl,hb8⟩)|(go_at_call 11;refine (known_any _).mono ?_;rintro e w9 ⟨rfl,hb9⟩))
  go_ret
  have h78:=hb7.trans (hb8.mono hb7.size)
  have h789:=h78.trans (hb9.mono h78.size)
  exact ⟨rfl,HB.out.trans (h789.mono HB.out.size)⟩
end Go.Proofs.YtmcekgapelanhaaGreat
