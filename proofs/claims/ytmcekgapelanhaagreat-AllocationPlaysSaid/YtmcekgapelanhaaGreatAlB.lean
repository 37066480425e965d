import Derived.Test.YtmcekgapelanhaaGreatAlA
import Derived.Test.YtmcekgapelanhaaGreatBigG
import Derived.Deep.CutRange
import Derived.StillTailTactics
set_option linter.unusedVariables false
set_option linter.unusedSimpArgs false
set_option maxRecDepth 100000
set_option maxHeartbeats 8000000
namespace Go.Proofs.YtmcekgapelanhaaGreat
open Go.RowKit Al Tok
open Lib (hid)
def OutE (ok:Bool) (bad:Int) (w:World) (e:Ending) (w':World):Prop:=e=.returned (.int .i64 (if ok=true then 0 else bad))∧Below w.heap.size w w'
theorem nameB_small {s:ByteArray} (h:nameB s=true):s.size≤16:=by
 unfold nameB at h;simp only [Bool.and_eq_true,decide_eq_true_eq] at h;exact h.1.1.2
theorem nameC (s:ByteArray) (b:Bool) (h:nameB s=b) (w:World):Calls Tryz.prog 46 #[.string s] w fun e w'=>e=.returned (.bool b)∧Below w.heap.size w w':=by rw [←h];exact name_any s w
theorem withinC (n lo hi:Int) (b:Bool) (h:inR n lo hi=b) (w:World):Calls Tryz.prog 29 #[.int .i64 n,.int .i64 lo,.int .i64 hi] w fun e w'=>e=.returned (.bool b)∧w=w':=by rw [←h];exact within_any n lo hi w
theorem any_take {l:List Bk} {k:Nat} (s:ByteArray):(((l.take k).map Bk.name).any fun t=>decide (t=s))=(l.take k).any fun c=>decide (c.name=s):=by
 rw [List.any_map];rfl
theorem SetB.put {w:World} {M:Nat} {l:List ByteArray} (h:SetB w M l) (s:ByteArray) (hs:s.size≤maxLen) (hn:l.length<maxLen) :
  ∃ w',(Instr.mapUpdate 82 (.map (some M)) (.string s) (.bool true)).run Tryz.prog w=.ok () w'∧SetB w' M (l++[s])∧w.grownBy w' (some M):=by
 obtain ⟨w',h1,h2,h3⟩:=World.ownsMap.update h (Maps.string_keyed Tryz.underlying9) Tryz.underlying82 hn (WideMaps.keyOf_string_mk Tryz.underlying9 hs) (plainElem_bool Tryz.underlying4 true)
 refine ⟨w',h1,?_,h3⟩
 unfold SetB
 rw [List.map_append,List.map_cons,List.map_nil,Maps.setOf_snoc,List.length_append]
 exact h2
theorem wpList_setB (w:World) {ops:Array Oper} {rest:List Oper} {o:Oper} {a:Act} {Q:Exit→Act→World→Prop} (hg:o.guard=none) (m x v:Operand) (hop:o.op=Op.mapUpdate 82 m x v)
  (M:Nat) (l:List ByteArray) (s:ByteArray) (hm:a.eval m=.map (some M)) (h:SetB w M l) (hs:s.size≤maxLen) (hn:l.length<maxLen) (hx:a.eval x=.string s) (hv:a.eval v=.bool true)
  (hK:∀ w',SetB w' M (l++[s])→w.grownBy w' (some M)→wpList Tryz.prog ops Q rest (a.put o.dst undef) w'):wpList Tryz.prog ops Q (o::rest) a w:=by
 obtain ⟨w',hrun,h1,h2⟩:=h.put s hs hn
 refine wpList_plain hg fun K' hK'=>?_
 unfold Oper.wp
 simp [execOp,hop,hm,hx,hv,hrun,Result.andThen]
 exact hK' _ _ (hK w' h1 h2)
theorem acheck_any (v:Value) (l:List Bk) (w:World) (h:BksAt w v l) :
  Calls Tryz.prog 12 #[v] w (OutE (checkB l) 210 w):=by
 have hF:=checkB.eq_1 l
 obtain ⟨A,cap,hv⟩:=Rd.form h
 have hmx:=h.2.1
 cases hlen:inR (l.length:Nat) 1 4 with
 | false =>
  have HF:=hid (show checkB l=false by rw [hF,hlen];rfl)
  have HW:=hid (withinC (l.length:Nat) 1 4 false hlen)
  subst hv
  clear hF hlen h
  go_enter Tryz.func12,Tryz.ntmps12
  go_wp2_with (go_at_call 29;refine (HW.out _).mono ?_;rintro e w' ⟨rfl,rfl⟩)
  go_ret
  exact ⟨by rw [HF.out];rfl,Below.refl _ _⟩
 | true =>
  have hb:=inR_yes hlen
  obtain ⟨g,off,cap,rfl,hc⟩:=bks_some h (by omega)
  have hglt:=bks_lt hc (by omega)
  obtain ⟨n,hnn⟩:∃ n,n=l.length:=⟨_,rfl⟩
  rw [←hnn] at hb hlen h hmx ⊢
  have HN:=hid hnn
  have HC:=hid hc
  have HF:=hid (show checkB l=okL l by rw [hF,←hnn,hlen];rfl)
  have HW:=hid (withinC (n:Int) 1 4 true hlen)
  clear hnn hc h hF hlen
  obtain ⟨M,hM⟩:∃ M,M=w.heap.size:=⟨_,rfl⟩
  have HMM:=hid hM
  have hmm:=@run_makeMap Tryz.prog
  go_enter Tryz.func12,Tryz.ntmps12
  go_wp2_with (go_at_call 29;refine (HW.out _).mono ?_;rintro e w' ⟨rfl,rfl⟩)
  rw [←hM]
  clear hM hmm
  go_loopg [13] n (fun m i wr=>∃ (k:Nat),k≤n∧n - k≤m∧i=.int .i64 k∧(∀ j,j<k→okAt l j=true)∧SetB wr M ((l.take k).map Bk.name)∧Below w.heap.size w wr)
  case atStart=>exact ⟨0,by omega,by omega,rfl,fun j hj=>absurd hj (by omega),by rw [HMM.out];exact SetB.made w,(Below.refl _ _).alloc (Nat.le_refl _) _⟩
  case round =>
   obtain ⟨k,hk,hm,rfl,hok,hset,hbl⟩:=hrel
   have HOK:=hid hok
   have HS:=hid hset
   have HB0:=hid hbl
   have hsz:=hbl.size
   have hMlt:=hset.lt
   clear hok hset hbl
   by_cases hlt:k<n
   ·obtain ⟨x,hx⟩:∃ x,l[k]?=some x:=⟨l[k]'(by rw [←HN.out];exact hlt),by simp [←HN.out,hlt]⟩
    obtain ⟨c0,c1,c2,c3,c4⟩:=(HC.out k x hx).below HB0.out
    have HX:=hid hx
    clear hx
    go_upto_region 7 with fail
    obtain ⟨W1,hW1⟩:∃ W1,W1=wr.alloc (.cells #[.string x.name,.int .i64 x.net,.int .i64 x.flows,.int .i64 x.own,.int .i64 x.units] 47):=⟨_,rfl⟩
    have hbW:Below wr.heap.size wr W1:=by rw [hW1];exact (Below.refl _ _).alloc (Nat.le_refl _) _
    obtain ⟨X,hX⟩:∃ X,X=wr.heap.size:=⟨_,rfl⟩
    have x0:W1.cell? ⟨X,0,none⟩=some (.string x.name):=by rw [hW1,hX];go_cell
    have x1:W1.cell? ⟨X,1,none⟩=some (.int .i64 x.net):=by rw [hW1,hX];go_cell
    have x2:W1.cell? ⟨X,2,none⟩=some (.int .i64 x.flows):=by rw [hW1,hX];go_cell
    have x3:W1.cell? ⟨X,3,none⟩=some (.int .i64 x.own):=by rw [hW1,hX];go_cell
    have x4:W1.cell? ⟨X,4,none⟩=some (.int .i64 x.units):=by rw [hW1,hX];go_cell
    have HS1:=hid (HS.out.below hbW)
    rw [←hW1,←hX]
    have HBW:=hid (HB0.out.trans (hbW.mono HB0.out.size))
    have HXM:=hid (show M<X by rw [hX];exact hMlt)
    clear hW1 hbW c0 c1 c2 c3 c4 hX
    cases h1:nameB x.name with
    | false =>
     have H1:=hid (nameC x.name false h1)
     have HNO:=hid (show okAt l k=false by simp [okAt,HX.out,okB,h1])
     clear h1
     go_wp2_with (first|(go_at_call 46;refine (H1.out _).mono ?_;rintro e W2 ⟨rfl,hbn⟩;have HBN:=hid (HBW.out.trans (hbn.mono HBW.out.size));have z0:=cU x0 hbn;have z1:=cU x1 hbn;have z2:=cU x2 hbn;have z3:=cU x3 hbn;have z4:=cU x4 hbn;have HS2:=hid (HS1.out.below hbn);clear x0 x1 x2 x3 x4 hbn)|(go_at_call 29;refine (within_any _ _ _ _).mono ?_;rintro e w' ⟨rfl,rfl⟩))
     go_ret
     exact ⟨by rw [HF.out,okL_no (by rw [←HN.out];exact hlt) HNO.out];rfl,HBN.out⟩
    | true =>
     have H1:=hid (nameC x.name true h1)
     have HSM:=hid (show x.name.size≤maxLen by have:=nameB_small h1;unfold maxLen;omega)
     cases h2:((l.take k).any fun c=>decide (c.name=x.name)) with
     | true =>
      have HNO:=hid (show okAt l k=false by simp [okAt,HX.out,okB,h1,h2])
      clear h1
      go_wp2_with (first|(go_at_call 46;refine (H1.out _).mono ?_;rintro e W2 ⟨rfl,hbn⟩;have HBN:=hid (HBW.out.trans (hbn.mono HBW.out.size));have z0:=cU x0 hbn;have z1:=cU x1 hbn;have z2:=cU x2 hbn;have z3:=cU x3 hbn;have z4:=cU x4 hbn;have HS2:=hid (HS1.out.below hbn);have hlk:=HS2.out.look x.name (HSM.out);rw [any_take,h2] at hlk;clear x0 x1 x2 x3 x4 hbn)|(go_at_call 29;refine (within_any _ _ _ _).mono ?_;rintro e w' ⟨rfl,rfl⟩))
      go_ret
      exact ⟨by rw [HF.out,okL_no (by rw [←HN.out];exact hlt) HNO.out];rfl,HBN.out⟩
     | false =>
      cases h3:inR x.net 0 1000000000000000 with
      | false =>
       have HNO:=hid (show okAt l k=false by simp [okAt,HX.out,okB,h1,h2,h3])
       clear h1
       go_wp2_with (first|(go_at_call 46;refine (H1.out _).mono ?_;rintro e W2 ⟨rfl,hbn⟩;have HBN:=hid (HBW.out.trans (hbn.mono HBW.out.size));have z0:=cU x0 hbn;have z1:=cU x1 hbn;have z2:=cU x2 hbn;have z3:=cU x3 hbn;have z4:=cU x4 hbn;have HS2:=hid (HS1.out.below hbn);have hlk:=HS2.out.look x.name (HSM.out);rw [any_take,h2] at hlk;clear x0 x1 x2 x3 x4 hbn)|(go_at_call 29;refine (within_any _ _ _ _).mono ?_;rintro e w' ⟨rfl,rfl⟩))
       go_ret
       exact ⟨by rw [HF.out,okL_no (by rw [←HN.out];exact hlt) HNO.out];rfl,HBN.out⟩
      | true =>
       have b3:=inR_yes h3
       cases h4:inR x.flows (-1000000000000000) 1000000000000000 with
       | false =>
        have HNO:=hid (show okAt l k=false by simp [okAt,HX.out,okB,h1,h2,h3,h4])
        clear h1
        go_wp2_with (first|(go_at_call 46;refine (H1.out _).mono ?_;rintro e W2 ⟨rfl,hbn⟩;have HBN:=hid (HBW.out.trans (hbn.mono HBW.out.size));have z0:=cU x0 hbn;have z1:=cU x1 hbn;have z2:=cU x2 hbn;have z3:=cU x3 hbn;have z4:=cU x4 hbn;have HS2:=hid (HS1.out.below hbn);have hlk:=HS2.out.look x.name (HSM.out);rw [any_take,h2] at hlk;clear x0 x1 x2 x3 x4 hbn)|(go_at_call 29;refine (within_any _ _ _ _).mono ?_;rintro e w' ⟨rfl,rfl⟩))
        go_ret
        exact ⟨by rw [HF.out,okL_no (by rw [←HN.out];exact hlt) HNO.out];rfl,HBN.out⟩
       | true =>
        have b4:=inR_yes h4
        cases h5:inR (x.net+x.flows) 0 1000000000000000 with
        | false =>
         have w5:IntKind.i64.wrap (x.net+x.flows)=x.net+x.flows:=IntWalk.i64_in _ (by omega)
         have HNO:=hid (show okAt l k=false by simp [okAt,HX.out,okB,h1,h2,h3,h4,h5])
         clear h1
         go_wp2_with (first|(go_at_call 46;refine (H1.out _).mono ?_;rintro e W2 ⟨rfl,hbn⟩;have HBN:=hid (HBW.out.trans (hbn.mono HBW.out.size));have z0:=cU x0 hbn;have z1:=cU x1 hbn;have z2:=cU x2 hbn;have z3:=cU x3 hbn;have z4:=cU x4 hbn;have HS2:=hid (HS1.out.below hbn);have hlk:=HS2.out.look x.name (HSM.out);rw [any_take,h2] at hlk;clear x0 x1 x2 x3 x4 hbn)|(go_at_call 29;refine (within_any _ _ _ _).mono ?_;rintro e w' ⟨rfl,rfl⟩))
         go_ret
         exact ⟨by rw [HF.out,okL_no (by rw [←HN.out];exact hlt) HNO.out];rfl,HBN.out⟩
        | true =>
         have w5:IntKind.i64.wrap (x.net+x.flows)=x.net+x.flows:=IntWalk.i64_in _ (by omega)
         cases h6:inR x.own (-1000000000000000) 1000000000000000 with
         | false =>
          have HNO:=hid (show okAt l k=false by simp [okAt,HX.out,okB,h1,h2,h3,h4,h5,h6])
          clear h1
          go_wp2_with (first|(go_at_call 46;refine (H1.out _).mono ?_;rintro e W2 ⟨rfl,hbn⟩;have HBN:=hid (HBW.out.trans (hbn.mono HBW.out.size));have z0:=cU x0 hbn;have z1:=cU x1 hbn;have z2:=cU x2 hbn;have z3:=cU x3 hbn;have z4:=cU x4 hbn;have HS2:=hid (HS1.out.below hbn);have hlk:=HS2.out.look x.name (HSM.out);rw [any_take,h2] at hlk;clear x0 x1 x2 x3 x4 hbn)|(go_at_call 29;refine (within_any _ _ _ _).mono ?_;rintro e w' ⟨rfl,rfl⟩))
          go_ret
          exact ⟨by rw [HF.out,okL_no (by rw [←HN.out];exact hlt) HNO.out];rfl,HBN.out⟩
         | true =>
          cases h7:inR x.units 0 1000000000000000 with
          | false =>
           have HNO:=hid (show okAt l k=false by simp [okAt,HX.out,okB,h1,h2,h3,h4,h5,h6,h7])
           clear h1
           go_wp2_with (first|(go_at_call 46;refine (H1.out _).mono ?_;rintro e W2 ⟨rfl,hbn⟩;have HBN:=hid (HBW.out.trans (hbn.mono HBW.out.size));have z0:=cU x0 hbn;have z1:=cU x1 hbn;have z2:=cU x2 hbn;have z3:=cU x3 hbn;have z4:=cU x4 hbn;have HS2:=hid (HS1.out.below hbn);have hlk:=HS2.out.look x.name (HSM.out);rw [any_take,h2] at hlk;clear x0 x1 x2 x3 x4 hbn)|(go_at_call 29;refine (within_any _ _ _ _).mono ?_;rintro e w' ⟨rfl,rfl⟩))
           go_ret
           exact ⟨by rw [HF.out,okL_no (by rw [←HN.out];exact hlt) HNO.out];rfl,HBN.out⟩
          | true =>
           have HYES:=hid (show okAt l k=true by simp [okAt,HX.out,okB,h1,h2,h3,h4,h5,h6,h7])
           clear h1
           go_upto_region 9 with (first|(go_at_call 46;refine (H1.out _).mono ?_;rintro e W2 ⟨rfl,hbn⟩;have HBN:=hid (HBW.out.trans (hbn.mono HBW.out.size));have z0:=cU x0 hbn;have z1:=cU x1 hbn;have z2:=cU x2 hbn;have z3:=cU x3 hbn;have z4:=cU x4 hbn;have HS2:=hid (HS1.out.below hbn);have hlk:=HS2.out.look x.name (HSM.out);rw [any_take,h2] at hlk;clear x0 x1 x2 x3 x4 hbn)|(go_at_call 29;refine (within_any _ _ _ _).mono ?_;rintro e w' ⟨rfl,rfl⟩))
           have hlk2:((l.take k).map Bk.name).length<maxLen:=by simp;unfold maxLen;omega
           go_wp2_with (at_mapUpdate;refine wpList_setB _ rfl _ _ _ rfl M _ x.name rfl HS2.out HSM.out hlk2 rfl rfl ?_;intro W3 hset hgrow;have HS3:=hid (show SetB W3 M ((l.take (k+1)).map Bk.name) by (rw [List.take_add_one,HX.out,List.map_append];exact hset));have HB3:=hid (show Below w.heap.size w W3 from HBN.out.grown hgrow HBN.out.size (by intro r hr;injection hr with hr;rw [←hr,HMM.out];exact Nat.le_refl _));clear hset hgrow)
           go_roundg (gk - 1)
           case measure=>omega
           case rel=>exact ⟨k+1,by omega,by omega,by go_num,fun j hj=>by
            by_cases hjk:j=k
            ·rw [hjk,HYES.out]
            ·exact HOK.out j (by omega),HS3.out,HB3.out⟩
           
   ·go_wp2
    go_ret
    exact ⟨by rw [HF.out,okL_yes (l:=l) (fun j hj=>HOK.out j (by rw [←HN.out] at hj;omega))];rfl,HB0.out⟩
end Go.Proofs.YtmcekgapelanhaaGreat
