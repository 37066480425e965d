import Derived.Test.YtmcekgapelanhaaGreatAlB
import Derived.Test.YtmcekgapelanhaaGreatApQ
set_option linter.unusedVariables false
set_option linter.unusedSimpArgs false
set_option maxRecDepth 100000
set_option maxHeartbeats 4000000
namespace Go.Proofs.YtmcekgapelanhaaGreat
open Go.RowKit Al Tok Ap
open Lib (hid)
namespace Al
def Bk.op (b:Bk):Nat:=(b.net+b.flows).toNat
def ownS (l:List Bk):Int:=(l.map Bk.own).foldl (·+·) 0
structure Ok (b:Bk):Prop where
 name:nameB b.name=true
 net:0≤b.net∧b.net≤1000000000000000
 flows:-1000000000000000≤b.flows∧b.flows≤1000000000000000
 sum:0≤b.net+b.flows∧b.net+b.flows≤1000000000000000
 own:-1000000000000000≤b.own∧b.own≤1000000000000000
 units:0≤b.units∧b.units≤1000000000000000
theorem okB_iff (b:Bk):okB b=true↔Ok b:=by
 unfold okB
 simp only [Bool.and_eq_true]
 constructor
 ·rintro ⟨⟨⟨⟨⟨h1,h2⟩,h3⟩,h4⟩,h5⟩,h6⟩
  exact ⟨h1,inR_yes h2,inR_yes h3,inR_yes h4,inR_yes h5,inR_yes h6⟩
 ·rintro ⟨h1,h2,h3,h4,h5,h6⟩
  exact ⟨⟨⟨⟨⟨h1,inR_of h2.1 h2.2⟩,inR_of h3.1 h3.2⟩,inR_of h4.1 h4.2⟩,inR_of h5.1 h5.2⟩,inR_of h6.1 h6.2⟩
theorem Ok.op_eq {b:Bk} (h:Ok b):b.net+b.flows=(b.op:Nat):=by unfold Bk.op;have:=h.sum;omega
theorem Ok.op_le {b:Bk} (h:Ok b):b.op≤1000000000000000:=by have:=h.op_eq;have:=h.sum;omega
structure Oks (l:List Bk):Prop where
 len:1≤l.length∧l.length≤4
 all:∀ b∈l,Ok b
theorem check_oks {l:List Bk} (h:checkB l=true):Oks l:=by
 unfold checkB at h
 rw [Bool.and_eq_true] at h
 have h1:=inR_yes h.1
 refine ⟨by omega,fun b hb=>?_⟩
 obtain ⟨k,hk⟩:=List.mem_iff_getElem?.1 hb
 have h2:=okL_at h.2 (List.getElem?_eq_some_iff.1 hk).1
 unfold okAt at h2
 rw [hk,Bool.and_eq_true] at h2
 exact (okB_iff b).1 h2.1
theorem sumL_take_snoc {l:List Nat} {k x:Nat} (h:l[k]?=some x):sumL (l.take (k+1))=sumL (l.take k)+x:=by
 rw [List.take_add_one,h]
 have:∀ a b:List Nat,sumL (a++b)=sumL a+sumL b:=by
  intro a b
  induction a with
  | nil=>simp [sumL]
  | cons y a ih=>simp only [List.cons_append,sumL];rw [ih];omega
 rw [this];simp [sumL]
theorem ownS_snoc (l:List Bk) (x:Bk):ownS (l++[x])=ownS l+x.own:=by simp [ownS,List.foldl_append]
theorem ownS_take {l:List Bk} {k:Nat} {x:Bk} (h:l[k]?=some x):ownS (l.take (k+1))=ownS (l.take k)+x.own:=by
 rw [List.take_add_one,h];exact ownS_snoc _ _
theorem ownS_bd {l:List Bk} (h:∀ b∈l,Ok b):∀ n,l.length=n→-(n:Int)*1000000000000000≤ownS l∧ownS l≤(n:Int)*1000000000000000:=by
 have key:∀ (l:List Bk) (a:Int),(∀ b∈l,Ok b)→(l.map Bk.own).foldl (·+·) a≤a+(l.length:Int)*1000000000000000∧a - (l.length:Int)*1000000000000000≤(l.map Bk.own).foldl (·+·) a:=by
  intro l
  induction l with
  | nil=>intro a _;simp
  | cons b l ih =>
   intro a h
   have h1:=ih (a+b.own) (fun c hc=>h c (by simp [hc]))
   have h2:=(h b (by simp)).own
   simp only [List.map_cons,List.foldl_cons,List.length_cons]
   omega
 intro n hn
 have:=key l 0 h
 rw [hn] at this
 unfold ownS
 omega
end Al
def cellsN (ws:List Nat):List Value:=ws.map (fun (x:Nat)=>Value.int .i64 (x:Int))
def SumsP (l:List Bk) (w:World) (e:Ending) (w':World):Prop :=
 ∃ vo,e=.returned (.tuple #[vo,.int .i64 (sumL (l.map Bk.op):Nat),.int .i64 (ownS l)])∧w'.ownsRow w.heap.size 3 1 vo l.length (cellsN (l.map Bk.op))∧Below w.heap.size w w'
theorem sums_any (v:Value) (l:List Bk) (w:World) (h:BksAt w v l) (hO:Oks l) :
  Calls Tryz.prog 30 #[v] w (SumsP l w):=by
 obtain ⟨hl1,hl4⟩:=hO.len
 obtain ⟨g,off,cap,rfl,hc⟩:=bks_some h (by omega)
 obtain ⟨n,hnn⟩:∃ n,n=l.length:=⟨_,rfl⟩
 rw [←hnn] at hl1 hl4 ⊢
 have HN:=hid hnn
 have HC:=hid hc
 have HOK:=hid hO.all
 clear hnn hc h hO
 go_enter Tryz.func30,Tryz.ntmps30
 go_wp2
 go_loopg [2,3,4,9] n (fun m vo so sw i wr=>∃ (k S:Nat) (T:Int),k≤n∧n - k≤m∧i=.int .i64 k∧so=.int .i64 S∧sw=.int .i64 T∧S=sumL ((l.take k).map Bk.op)∧T=ownS (l.take k)∧wr.ownsRow w.heap.size 3 1 vo k (cellsN ((l.take k).map Bk.op))∧Below w.heap.size w wr)
 case atStart=>exact ⟨0,0,0,by omega,by omega,rfl,rfl,rfl,rfl,rfl,⟨by simp [cellsN],.inl ⟨rfl,rfl⟩⟩,Below.refl _ _⟩
 case round =>
  obtain ⟨k,S,T,hk,hm,rfl,rfl,rfl,hS,hT,hown,hbl⟩:=hrel
  have HS:=hid hS
  have HT:=hid hT
  have HO:=hid hown
  have HB0:=hid hbl
  have hsz:=hbl.size
  have hSb:S≤4000000000000000:=by
   have h1:=sumL_le (l:=(l.take k).map Bk.op) (c:=1000000000000000) (fun x hx=>by
    obtain ⟨b,hb,rfl⟩:=List.mem_map.1 hx
    exact (HOK.out b (List.mem_of_mem_take hb)).op_le)
   rw [←hS] at h1
   have h2:((l.take k).map Bk.op).length*1000000000000000≤4*1000000000000000:=Nat.mul_le_mul_right _ (by simp;omega)
   omega
  have hTb:-4000000000000000≤T∧T≤4000000000000000:=by
   have h1:=ownS_bd (l:=l.take k) (fun b hb=>HOK.out b (List.mem_of_mem_take hb)) _ rfl
   rw [←hT] at h1
   have h2:(l.take k).length≤4:=by simp;omega
   omega
  clear hS hT hown hbl
  by_cases hlt:k<n
  ·obtain ⟨x,hx⟩:∃ x,l[k]?=some x:=⟨l[k]'(by rw [←HN.out];exact hlt),by simp [←HN.out,hlt]⟩
   obtain ⟨c0,c1,c2,c3,c4⟩:=(HC.out k x hx).below HB0.out
   have hok:=HOK.out x (List.mem_of_getElem? hx)
   have hop:=hok.op_eq
   have hopl:=hok.op_le
   have b3:=hok.net
   have b4:=hok.flows
   have b6:=hok.own
   have HX:=hid hx
   obtain ⟨z,hz⟩:∃ z,z=x.op:=⟨_,rfl⟩
   rw [←hz] at hop hopl
   have HZ:=hid hz
   have w5:IntKind.i64.wrap (x.net+x.flows)=(z:Int):=by rw [IntWalk.i64_in _ (by omega)];exact hop
   have w6:IntKind.i64.wrap ((S:Int)+(z:Int))=((S+z:Nat):Int):=by rw [IntWalk.i64_in _ (by omega)];omega
   have w7:IntKind.i64.wrap (T+x.own)=T+x.own:=IntWalk.i64_in _ (by omega)
   clear hx hok hz
   obtain ⟨i0,hi,hz0,hz1,hz2⟩:=info_parts Tryz.info3
   go_upto_region 4 with fail
   obtain ⟨X,hX⟩:∃ X,X=wr.heap.size:=⟨_,rfl⟩
   obtain ⟨W1,hW1⟩:∃ W1,W1=wr.alloc (.cells #[.string x.name,.int .i64 x.net,.int .i64 x.flows,.int .i64 x.own,.int .i64 x.units] 47):=⟨_,rfl⟩
   have hbW:Below wr.heap.size wr W1:=by rw [hW1];exact (Below.refl _ _).alloc (Nat.le_refl _) _
   have x1:W1.cell? ⟨X,1,none⟩=some (.int .i64 x.net):=by rw [hW1,hX];go_cell
   have x2:W1.cell? ⟨X,2,none⟩=some (.int .i64 x.flows):=by rw [hW1,hX];go_cell
   have x3:W1.cell? ⟨X,3,none⟩=some (.int .i64 x.own):=by rw [hW1,hX];go_cell
   have hs1:X<W1.heap.size:=by rw [hW1,hX];simp
   have HO1:=hid (ownsRow_below HO.out hbW)
   have HB1:=hid (HB0.out.trans (hbW.mono hsz))
   rw [←hW1,←hX]
   have HLT:=hid (fun q hq=>(HO.out.lt q hq).2)
   rw [←hX] at HLT hsz
   clear hW1 hbW hX c0 c1 c2 c3 c4 HO HB0
   go_upto_region 5 with (at_builtin;refine wpList_append_own _ rfl _ _ 41 rfl w.heap.size 3 i0 _ 1 8 Tryz.underlying41 hi hz0 hz1 hz2 rfl (by decide) _ _ _ rfl (HO1.out.alloc _) ⟨W1.heap.size,0,none⟩ 1 1 [.int .i64 z] rfl rfl ?_ ?_ ?_ ?_ ?_ ?_;exact cells_new W1 [.int .i64 (z:Int)] _;(simp [Value.oneCell']);exact small_maxLen (by omega);omega;(simp;omega);intro v' Wa hown' hgrow _)
   have hk6:∀ o,Wa.cell? ⟨X,o,none⟩=W1.cell? ⟨X,o,none⟩:=fun o=>by
    rw [World.cell?_of_block (hgrow.block X (by simp;omega) (fun e=>by have:=HLT.out X e.symm;omega))]
    exact World.cell?_of_block (Below.heap_alloc _ _ _ (by show X<W1.heap.size;omega))
   have y1:=(hk6 1).trans x1
   have y2:=(hk6 2).trans x2
   have y3:=(hk6 3).trans x3
   have HO6:=hid (show Wa.ownsRow w.heap.size 3 1 v' (k+1) (cellsN ((l.take (k+1)).map Bk.op)) by
    have e:(l.take (k+1)).map Bk.op=(l.take k).map Bk.op++[z]:=by rw [List.take_add_one,HX.out,List.map_append,HZ.out];rfl
    rw [e];unfold cellsN;rw [List.map_append];exact hown')
   have HB6:=hid (show Below w.heap.size w Wa from (HB1.out.alloc (by omega) _).grown hgrow (by simp;omega) (fun q hq=>(HO1.out.lt q hq).1))
   clear hk6 hown' hgrow x1 x2 x3 hs1 HO1 HB1 HLT hi hz0 hz1 hz2
   go_wp2
   go_roundg (gk - 1)
   case measure=>omega
   case rel=>exact ⟨k+1,S+z,T+x.own,by omega,by omega,by go_num,by go_num,rfl,by
    rw [List.map_take,sumL_take_snoc (x:=z) (by rw [List.getElem?_map,HX.out,HZ.out];rfl),HS.out,List.map_take],by
    rw [ownS_take HX.out,HT.out],HO6.out,HB6.out⟩
  ·obtain rfl:k=n:=by omega
   have e:l.take k=l:=List.take_of_length_le (by rw [←HN.out];exact Nat.le_refl _)
   rw [e] at HS HT HO
   go_wp2
   go_ret3
   have HK:=hid (show l.length=k from HN.out.symm)
   exact ⟨_,by rw [←HS.out,←HT.out];rfl,by rw [HK.out];exact HO.out,HB0.out⟩
end Go.Proofs.YtmcekgapelanhaaGreat
