import Derived.Test.YtooeabibhjbkoaaGreatGkD
import Derived.ProofKit
import Derived.OpenShut
import Derived.Deep.Slices
import Derived.Deep.Strs
import Derived.Lib.SmallJoins
import Derived.DataShut
import Derived.Test.YtooeabibhjbkoaaGreatGmC
import Derived.Test.YtooeabibhjbkoaaGreatGkA
set_option linter.unusedVariables false
set_option linter.unusedSimpArgs false
set_option maxRecDepth 100000
namespace Go.Proofs.YtooeabibhjbkoaaGreat
open Go.RowKit Big Reg Al Ap Ga Go.ChangeShapes Go.WideShapes Go.ChangeAt Go.Joins Go.Deep
instance:Inhabited Rq:=⟨⟨⟨#[]⟩,0,0⟩⟩
theorem lv_get {n i:Nat} (v:Nat) (h:i<n):(lv n v)[i]?=some (.int .u32 (lim v i:Nat)):=by
 unfold lv cells
 rw [List.getElem?_map,dg_get v h];rfl
set_option maxRecDepth 100000
section
variable {H:Type} {enc:TypeId × Value→H} {w:World} {base:Nat} {spare:Nat→Bool} {held:Bool}
end
theorem Rd.nil (w:World):Rd w 1 (.slice none 0 0) ([]:List Int).length (([]:List Int).map (Value.int .i64)):=⟨rfl,by decide,none,0,rfl,fun h=>absurd h (by decide)⟩
end Go.Proofs.YtooeabibhjbkoaaGreat
namespace Go.Proofs.YtooeabibhjbkoaaGreat
open Go.RowKit Big Reg Al Ap Ga Go.ChangeShapes Go.WideShapes Go.ChangeAt Go.Joins Go.Deep
theorem run_neT (x:Tk) (w:World):(binOp .neq 65 (.agg x.cells.toArray) (.agg x.cells.toArray)).run Tryz.prog w=.ok (.bool false) w:=by
 unfold Tk.cells
 simp [go_sem]
theorem wpQuiet_neT {ops:Array Oper} {C:World→Prop} {Q:Act→Prop} {a:Act} {op:Oper} {rest:List Oper} {x y:Operand} {t:TypeId} {T:Tk} (hgd:Region.wanted op (yielded ops a.tmps)=true) (ho:op.op=.binOp .neq 65 x y t) (hx:a.eval x=.agg T.cells.toArray) (hy:a.eval y=.agg T.cells.toArray)
  (h:wpQuiet Tryz.prog ops C Q rest (a.put op.dst (.bool false))):wpQuiet Tryz.prog ops C Q (op::rest) a:=by
 refine wpQuiet_step (fun K hK=>?_)
 rw [if_pos hgd]
 refine ⟨.bool false,fun W hW=>?_,hK _ h⟩
 have hg:=run_eqGuard_agg (P:=Tryz.prog) W .neq 65 x y T.cells.toArray T.cells.toArray (by kernel_rfl)
 unfold Oper.quietAt execOp
 simp [ho,hx,hy,hg,run_neT T W,Oper.quietUpon]
instance instInhabitedTk:Inhabited Tk:=⟨⟨⟨⟨#[]⟩,⟨#[]⟩,⟨#[]⟩,⟨#[]⟩,⟨#[]⟩,0,0,0,0,0,false⟩,0,0⟩⟩
set_option maxRecDepth 100000
section
variable {H:Type} {enc:TypeId × Value→H} {w:World} {base:Nat} {spare:Nat→Bool} {held:Bool}
end
end Go.Proofs.YtooeabibhjbkoaaGreat
set_option maxHeartbeats 8000000
namespace Go.Proofs.YtooeabibhjbkoaaGreat
open Go.RowKit Big Reg Al Ap Ga
open Lib (hid)
theorem wpList_newOf {P:Program} {ops:Array Oper} {rest:List Oper} {o1 o2:Oper} {a:Act} {w:World} {Q:Exit→Act→World→Prop} {t:TypeId} {z:Array Value} (hL:LaysAs P t z) (hg1:o1.guard=none) (hg2:o2.guard=none) (ho1:o1.op=.alloc t) {x y:Operand} (ho2:o2.op=.store t x y) {cs:List Value}
    (hx:(a.put o1.dst (.pointer (some ⟨w.heap.size,0,none⟩))).eval x=.pointer (some ⟨w.heap.size,0,none⟩)) (hy:(a.put o1.dst (.pointer (some ⟨w.heap.size,0,none⟩))).eval y=.agg cs.toArray) (hz:cs.length=z.size) (hs:(P.info? t).map (·.size)=some cs.length) (h1:cs.toArray.all (·.oneCell')=true)
    (h:∀ w',Below w.heap.size w w'→At w' w.heap.size 0 cs→wpList P ops Q rest ((a.put o1.dst (.pointer (some ⟨w.heap.size,0,none⟩))).put o2.dst undef) w'):wpList P ops Q (o1::o2::rest) a w:=by
  refine wpList_plain hg1 fun K hK=>?_
  have hrun:=hL o1 ho1 a w
  unfold Oper.wp
  rw [hrun]
  refine hK _ _ ?_
  have hA:At (w.alloc (.cells z t)) w.heap.size 0 z.toList:=by have:=At.fresh w z.toList t rfl;simpa using this
  have hth:(w.alloc (.cells z t)).there w.heap.size 0 cs.length:=fun j hj=>hA.there j (by simp;omega)
  refine wpList_store_mid hg2 _ _ _ ho2 w.heap.size 0 cs.toArray hx hy (by simpa using hth) (by simpa using hs) h1 ?_
  refine h _ ?_ ?_
  · exact below_sets (Nat.le_refl _) _ _ _ ((Below.refl _ _).alloc (Nat.le_refl _) _)
  · exact ⟨World.rangeAt_setCells_same _ _ _ _ hth,World.there_setCells hth _ _ _,by rw [size_sets];simp⟩
theorem built_Tk (c0 c1 c2 c3 c4:ByteArray) (k a u t n:Int) (v:Bool) (d f:Int):Tryz.prog.built 65 [(0,.agg #[.string c0,.string c1,.string c2,.string c3,.string c4,.int .i64 k,.int .i64 a,.int .i64 u,.int .i64 t,.int .i64 n,.bool v]),(1,.int .i64 d),(2,.int .i64 f)]=some #[.string c0,.string c1,.string c2,.string c3,.string c4,.int .i64 k,.int .i64 a,.int .i64 u,.int .i64 t,.int .i64 n,.bool v,.int .i64 d,.int .i64 f]:=by kernel_rfl
theorem At.cI0 {w:World} {O k:Nat} {l:List Int} {x:Int} (h:At w O 0 (cI l)) (hk:l[k]?=some x):w.cell? ⟨O,k,none⟩=some (.int .i64 x):=h.cel (by unfold cI;rw [List.getElem?_map,hk];rfl)
theorem At.cIset {w:World} {O k:Nat} {l:List Int} {x:Int} (h:At w O 0 (cI l)) (hk:k<l.length):At (w.setCell ⟨O,k,none⟩ (.int .i64 x)) O 0 (cI (l.set k x)):=by
  have:=h.oneSet (k:=k) (v:=.int .i64 x) (by rw [cI_len];exact hk)
  rwa [cI_set] at this
theorem Rd.setC {w:World} {size n cap:Nat} {A:Option Addr} {xs:List Value} (h:Rd w size (.slice A n cap) n xs) (p:Addr) (v:Value) (hp:∀ g off,A=some ⟨g,off,none⟩→p.block≠g):Rd (w.setCell p v) size (.slice A n cap) n xs:=by
  obtain ⟨h1,h2,A',cap',hv,h3⟩:=h
  injection hv with e1 e2 e3
  subst e1 e3
  refine ⟨h1,h2,A,cap,rfl,fun hn=>?_⟩
  obtain ⟨g,off,ha,hc⟩:=h3 hn
  exact ⟨g,off,ha,fun j u hu=>by rw [World.cell?_setCell_other _ _ _ _ (fun e=>hp g off ha (congrArg Addr.block e))];exact hc j u hu⟩
theorem At.row {w:World} {O n cap:Nat} {l:List Int} (h:At w O 0 (cI l)) (hl:l.length=n) (hn:n≤1000000):Rd w 1 (.slice (some ⟨O,0,none⟩) n cap) l.length (cI l):=by have:=h.rd (cap:=cap) hl hn;rwa [hl]
theorem loses_any (a:Option Addr) (len cap:Nat) (z:List Int) (next spoil:Int) (w:World) (hr:IsRow .i64 w a len cap z) :
    Calls Tryz.prog 7 #[.slice a len cap,.int .i64 next,.int .i64 spoil] w fun e w'=>e=.returned (.bool true)∧Below w.heap.size w w':=by
  have hln:=row_len hr
  have hl9:len≤9223372036854775807:=by unfold maxLen at hln;omega
  obtain ⟨bt,hbt⟩:∃ bt,bt=w.heap.size:=⟨_,rfl⟩
  have hN:=new_any a len cap z w hr hl9
  rw [←hbt] at hN
  have HBT:=hid hbt
  have HN:=hid hN
  clear hN hbt hr hl9 hln
  go_enter Tryz.func7,Tryz.ntmps7
  go_wp2_with fail
  refine HN.out.mono ?_
  rintro e w1 ⟨rfl,ht1,hb1⟩
  have HT1:=hid ht1
  have HB1:=hid hb1
  have hbt1:=ht1.lt
  clear ht1 hb1 HN
  go_wp2_with fail
  have hDD:=deals_any bt 8 w1 HT1.out (by decide)
  rw [show ((8:Nat):Int)=8 from rfl] at hDD
  refine hDD.mono ?_
  rintro e w2 ⟨v0,l,rfl,hM,hO,hD2⟩
  obtain ⟨n,hn⟩:∃ n,n=l.length:=⟨_,rfl⟩
  obtain ⟨_,_,A0,cap0,hv0,_⟩:=Rd.of_own hO
  subst hv0
  rw [←hn] at hO ⊢
  have hn8:n≤8:=by rw [hn];exact hM.1
  have HNL:=hid hn
  have HM:=hid hM
  have HO:=hid hO
  have HD:=hid hD2
  have HGA:=hid (show ∀ g off,A0=some ⟨g,off,none⟩→g<w2.heap.size from fun g off h=>by subst h;exact (hO.lt g rfl).2)
  have hz12:=hD2.size
  have hmk:=run_make_row' (P:=Tryz.prog) 30 3 (.int .i64 0) 8 Tryz.underlying30 Tryz.info3 rfl .i64 .i64 n (by omega) (by omega)
  clear hDD hM hO hD2 hn
  go_upto_region 3 with fail
  go_cut [9,10] from 20 (fun p9 p10 wx=>∃ V A:Nat,p9=.slice (some ⟨V,0,none⟩) n n∧p10=.slice (some ⟨A,0,none⟩) n n∧V≠A∧w2.heap.size≤V∧w2.heap.size≤A∧At wx V 0 (cI (fz [] n))∧At wx A 0 (cI (fz [] n))∧Below w2.heap.size w2 wx)
  case first =>
    have hm0:∀ (W:World) (t:TypeId),At (W.alloc (.cells (madeCells #[.int .i64 0] n) t)) W.heap.size 0 (cI (fz [] n)):=fun W t=>by
      rw [fz_nil];exact (row_made W n _ t rfl).at (by simp)
    have HM0:=hid hm0
    clear hm0
    go_region
    all_goals go_wp2_with fail
    all_goals go_meet
    all_goals first
      | (refine ⟨w2.heap.size,w2.heap.size+1,rfl,rfl,by omega,Nat.le_refl _,by omega,?_,?_,?_⟩
         · exact ((HM0.out _ _).alloc _).below (below_drew' (Below.refl _ _))
         · have:=HM0.out (w2.alloc (.cells (madeCells #[.int .i64 0] n) 3)) 3
           rw [World.size_alloc] at this
           exact this.below (below_drew' (Below.refl _ _))
         · exact below_drew' (((Below.refl _ _).alloc (Nat.le_refl _) _).alloc (by simp) _))
      | (refine ⟨w2.heap.size+1,w2.heap.size,rfl,rfl,by omega,by omega,Nat.le_refl _,?_,?_,?_⟩
         · have:=HM0.out (w2.alloc (.cells (madeCells #[.int .i64 0] n) 3)) 3
           rw [World.size_alloc] at this
           exact this.below (below_drew' (Below.refl _ _))
         · exact ((HM0.out _ _).alloc _).below (below_drew' (Below.refl _ _))
         · exact below_drew' (((Below.refl _ _).alloc (Nat.le_refl _) _).alloc (by simp) _))
  case rest =>
  obtain ⟨V,A,rfl,rfl,hVA,hV2,hA2,hatV,hatA,hb2⟩:=hcut
  have hAV:A≠V:=Ne.symm hVA
  have HVT:=hid hatV
  have HAT:=hid hatA
  have HO3:=hid (ownsRow_below HO.out hb2)
  have HD3:=hid (HD.out.below hb2)
  clear hatV hatA hb2 hmk
  go_wp2
  go_loopg [11] n (fun m iv wr=>∃ (k:Nat) (ws ss:List Int),iv=.int .i64 k∧k≤n∧n≤m+k∧ws.length=k∧Wants ws ss∧At wr V 0 (cI (fz ws n))∧At wr A 0 (cI (fz ss n))∧wr.ownsRow w1.heap.size 65 13 (.slice A0 n cap0) n (cellsT l)∧Drew w1 bt wr)
  case atStart=>exact ⟨0,[],[],rfl,by omega,by omega,rfl,⟨rfl,fun k w a h=>by simp at h⟩,HVT.out,HAT.out,HO3.out,HD3.out⟩
  case round =>
    obtain ⟨k,ws,ss,rfl,hk,hmm,hwl,hwa,hatV,hatA,hown,hd⟩:=hrel
    clear HVT HAT HO3 HD3
    have HVT:=hid hatV
    have HAT:=hid hatA
    have HO4:=hid hown
    have HD4:=hid hd
    have HWA:=hid hwa
    have HWL:=hid hwl
    have hsl:ss.length=k:=by rw [←hwa.1];exact hwl
    have HSL:=hid hsl
    clear hatV hatA hown hd hwa hwl hsl
    by_cases hlt:k<n
    · go_wp2_with fail
      refine (units_any bt wr HD4.out.1).mono ?_
      rintro e w3 ⟨u,rfl,hu1,hu2,hd⟩
      replace HVT:=hid (HVT.out.drw hd (by omega))
      replace HAT:=hid (HAT.out.drw hd (by omega))
      replace HO4:=hid (HO4.out.kept hd.2 (.inr (fun e=>by have:=(HO4.out.lt bt e).1;omega)))
      replace HD4:=hid (HD4.out.trans hd)
      have cv:w3.cell? ⟨V,k,none⟩=some (.int .i64 0):=HVT.out.cI0 (by have:=fz_at ws n (by rw [HWL.out];exact hlt);rwa [HWL.out] at this)
      have fv:w3.frozen? ⟨V,k,none⟩=false:=HVT.out.frz (by rw [cI_len,fz_len _ _ (by rw [HWL.out];omega)];exact hlt)
      have hkI:(k:Int)<(n:Int):=by omega
      clear hd
      go_upto_region 8 with fail
      obtain ⟨W4,hW4⟩:∃ W4,W4=w3.setCell ⟨V,k,none⟩ (.int .i64 u):=⟨_,rfl⟩
      rw [←hW4]
      replace HVT:=hid (show At W4 V 0 (cI (fz (ws++[u]) n)) by
        rw [hW4]
        have:=HVT.out.cIset (k:=k) (x:=u) (by rw [fz_len _ _ (by rw [HWL.out];omega)];exact hlt)
        have h2:=fz_set ws n u (by rw [HWL.out];exact hlt)
        rw [HWL.out] at h2
        rwa [h2] at this)
      replace HAT:=hid (show At W4 A 0 (cI (fz ss n)) by rw [hW4];exact HAT.out.othSet _ _ hVA)
      replace HO4:=hid (show W4.ownsRow w1.heap.size 65 13 (.slice A0 n cap0) n (cellsT l) by
        rw [hW4];exact HO4.out.kept (row:=some V) (grownBy_setCell _ rfl _) (.inr (fun e=>by have:=(HO.out.lt V e).2;omega)))
      replace HD4:=hid (show Drew w1 bt W4 by rw [hW4];exact HD4.out.setCell hbt1 _ _ (by show w1.heap.size≤V;omega))
      have HCV:=hid (show W4.cell? ⟨V,k,none⟩=some (.int .i64 u) from HVT.out.cI0 (by rw [fz_get _ _ _ (by rw [List.length_append,HWL.out];show k<k+1;omega),List.getElem?_append_right (by rw [HWL.out];exact Nat.le_refl _),HWL.out,Nat.sub_self];rfl))
      clear hW4 cv fv
      have HTW:=hid HD4.out.1
      have hbW:=HD4.out.1.lt
      have hz4:=HD4.out.size
      have hVlt:=HVT.out.lt
      have wu:IntKind.i64.wrap (u+1)=u+1:=IntWalk.i64_in _ (by omega)
      refine wp_events 17 [13,14,15] (fun g v w=>(g=13→EvInt (fun x=>0≤x∧x≤u) v w)∧(g=14→EvRow W4.heap.size 3 (fun cs=>∃ q:List Int,cs=q.map (Value.int .i64)∧q.length=3∧∀ x∈q,0≤x∧x≤u) v w)∧(g=15→EvInt (fun x=>0≤x∧x≤u) v w)) (fun a b=>Drew a bt b) [⟨41,[],fun _=>.slice (some ⟨A,0,none⟩) n n⟩,⟨42,[],fun _=>.int .i64 (k:Int)⟩,⟨43,[],fun _=>.pointer (some ⟨bt,0,none⟩)⟩,⟨44,[],fun _=>.slice (some ⟨V,0,none⟩) n n⟩,⟨45,[],fun _=>.int .i64 (k:Int)⟩,⟨46,[],fun _=>.pointer (some ⟨V,k,none⟩)⟩,⟨47,[],fun _=>.int .i64 u⟩,⟨48,[],fun _=>.pointer (some ⟨bt,0,none⟩)⟩,⟨49,[],fun _=>.slice (some ⟨V,0,none⟩) n n⟩,⟨50,[],fun _=>.int .i64 (k:Int)⟩,⟨51,[],fun _=>.pointer (some ⟨V,k,none⟩)⟩,⟨52,[],fun _=>.int .i64 u⟩,⟨53,[],fun _=>.int .i64 (u+1)⟩,⟨54,[13],fun l=>(l.getD 0 undef)⟩,⟨55,[14],fun l=>(l.getD 0 undef)⟩,⟨56,[15],fun l=>(l.getD 0 undef)⟩,⟨57,[],fun _=>.pointer (some ⟨A,k,none⟩)⟩] _ (by simp only [List.take_succ_cons,List.take_zero,List.take_nil];rfl) (by simp only [List.drop_succ_cons,List.drop_zero,List.drop_nil];rfl) (by intro γ;simp only [finG,List.foldl_cons,List.foldl_nil,List.map_cons,List.map_nil,List.getD_cons_zero,List.getD_cons_succ,zq];rfl) (by kernel_rfl) (by kernel_rfl) (by kernel_rfl) (by kernel_rfl) (by kernel_rfl) (fun _ _ _ h k=>h.trans k) (Drew.refl HTW.out) (fun a b h k=>⟨k.1.below h,grownBy_up h _⟩) (fun g v x y h h1 h2=>⟨fun e=>(h.1 e),fun e=>EvRow.up hbW (h.2.1 e) h2,fun e=>(h.2.2 e)⟩) ?_ ?_ ?_ ?_
      · intro γ W' hK'
        iterate 6 (refine fxgo ?_ ?_;(go_big_quiet_step (fail);(try simp only [zq]);exact wqn rfl))
        refine flowXG_any (fun hf=>?_) ?_
        · skip
          have z1:W'.cell? ⟨V,k,none⟩=some (.int .i64 u):=hK'.cell HCV.out (by show V≠bt;omega)
          exact (wcg (by rfl) rfl rfl (fun W h=>by simp [loadVar,h,go_sem]) z1 (wqn (by simp only [zq])))
        iterate 4 (refine fxgo ?_ ?_;(go_big_quiet_step (fail);(try simp only [zq]);exact wqn rfl))
        refine flowXG_any (fun hf=>?_) ?_
        · skip
          have z1:W'.cell? ⟨V,k,none⟩=some (.int .i64 u):=hK'.cell HCV.out (by show V≠bt;omega)
          exact (wcg (by rfl) rfl rfl (fun W h=>by simp [loadVar,h,go_sem]) z1 (wqn (by simp only [zq])))
        refine fxgo ?_ ?_;(go_big_quiet_step (fail);(try simp only [zq]);exact wqn rfl)
        iterate 3 (refine fxgs (by rfl) ?_)
        refine fxgo ?_ ?_;(go_big_quiet_step (fail);(try simp only [zq]);exact wqn rfl)
        exact flowXG_nil
      · intro γ j hj oj hoj W' hK' hR'
        simp only [List.mem_cons,List.not_mem_nil,or_false] at hj
        have hT':=hK'.1
        have hB':=hK'.2.size
        rcases hj with rfl|rfl|rfl
        · cases hoj
          refine ⟨rfl,GY.mono (D:=fun v w=>Drew W' bt w∧EvInt (fun x=>0≤x∧x≤u) v w) ?_ fun v w h=>⟨h.1,⟨fun _=>h.2,fun e=>absurd e (by decide),fun e=>absurd e (by decide)⟩⟩⟩
          refine GY.callOf (f:=17) (args:=#[.pointer (some ⟨bt,0,none⟩),.int .i64 (u+1)]) (by simp [execOp,Act.eval,go_sem]) ((next_any bt (u+1) _ hT' (by omega) (by omega)).mono ?_)
          rintro e w5 ⟨u,rfl,h1,h2,hd⟩
          exact ⟨_,rfl,hd,u,rfl,by omega⟩
        · cases hoj
          obtain ⟨a,e54,ha⟩:=(hR' 13 (by simp) (by kernel_rfl)).1 rfl
          refine ⟨rfl,GY.mono (D:=fun v w=>Drew W' bt w∧EvRow W4.heap.size 3 (fun cs=>∃ q:List Int,cs=q.map (Value.int .i64)∧q.length=3∧∀ x∈q,0≤x∧x≤u) v w) ?_ fun v w h=>⟨h.1,⟨fun e=>absurd e (by decide),fun _=>h.2,fun e=>absurd e (by decide)⟩⟩⟩
          refine GY.rowOf (len:=3) (e:=3) (s:=1) [.int .i64 0,.int .i64 u,.int .i64 a] rfl (by simp [Act.eval,e54]) rfl (by decide) (by decide) (by simp [Value.cells]) (by decide) Tryz.underlying30 (by kernel_rfl) (by kernel_rfl) hT' hB' ?_
          refine ⟨[0,u,a],rfl,rfl,fun x hx=>?_⟩
          simp only [List.mem_cons,List.not_mem_nil,or_false] at hx
          rcases hx with rfl|rfl|rfl<;>omega
        · cases hoj
          obtain ⟨g2,c2,e55,hg2,hA2,q,hq,hql,hqb⟩:=(hR' 14 (by simp) (by kernel_rfl)).2.1 rfl
          refine ⟨rfl,GY.mono (D:=fun v w=>Drew W' bt w∧EvInt (fun x=>0≤x∧x≤u) v w) ?_ fun v w h=>⟨h.1,⟨fun e=>absurd e (by decide),fun e=>absurd e (by decide),fun _=>h.2⟩⟩⟩
          refine GY.callOf (f:=29) (args:=#[.pointer (some ⟨bt,0,none⟩),.slice (some ⟨g2,0,none⟩) 3 3]) (by simp [execOp,Act.eval,go_sem,e55]) ((pick_any bt g2 3 3 q _ hql hT' (by omega) (by omega) (by omega) (fun j x hj=>?_)).mono ?_)
          · exact hA2.cel (by rw [hq,List.getElem?_map,hj];rfl)
          · rintro e w5 ⟨s,hs,rfl,hd⟩
            exact ⟨_,rfl,hd,s,rfl,hqb s hs⟩
      · intro γ j hj oj hoj
        simp only [List.mem_cons,List.not_mem_nil,or_false] at hj
        rcases hj with rfl|rfl|rfl<;>cases hoj<;>rfl
      intro γ W5 hK hR
      obtain ⟨a,e54,ha⟩:=(hR 13 (by simp)).1 rfl
      obtain ⟨g2,c2,e55,hg2,hA2,q,hq,hql,hqb⟩:=(hR 14 (by simp)).2.1 rfl
      obtain ⟨s,e56,hs⟩:=(hR 15 (by simp)).2.2 rfl
      simp only [e54,e55,e56,ivl]
      clear hR
      replace HVT:=hid (HVT.out.drw hK (by omega))
      replace HAT:=hid (HAT.out.drw hK (by omega))
      replace HO4:=hid (HO4.out.kept hK.2 (.inr (fun e=>by have:=(HO4.out.lt bt e).1;omega)))
      replace HD4:=hid (HD4.out.trans hK)
      have ca:W5.cell? ⟨A,k,none⟩=some (.int .i64 0):=HAT.out.cI0 (by have:=fz_at ss n (by rw [HSL.out];exact hlt);rwa [HSL.out] at this)
      have fa:W5.frozen? ⟨A,k,none⟩=false:=HAT.out.frz (by rw [cI_len,fz_len _ _ (by rw [HSL.out];omega)];exact hlt)
      clear hK hA2 hq hql hqb e54 e55 e56 hg2 HCV HTW ha
      go_wp2
      obtain ⟨W6,hW6⟩:∃ W6,W6=W5.setCell ⟨A,k,none⟩ (.int .i64 s):=⟨_,rfl⟩
      rw [←hW6]
      replace HAT:=hid (show At W6 A 0 (cI (fz (ss++[s]) n)) by
        rw [hW6]
        have:=HAT.out.cIset (k:=k) (x:=s) (by rw [fz_len _ _ (by rw [HSL.out];omega)];exact hlt)
        have h2:=fz_set ss n s (by rw [HSL.out];exact hlt)
        rw [HSL.out] at h2
        rwa [h2] at this)
      replace HVT:=hid (show At W6 V 0 (cI (fz (ws++[u]) n)) by rw [hW6];exact HVT.out.othSet _ _ hAV)
      replace HO4:=hid (show W6.ownsRow w1.heap.size 65 13 (.slice A0 n cap0) n (cellsT l) by
        rw [hW6];exact HO4.out.kept (row:=some A) (grownBy_setCell _ rfl _) (.inr (fun e=>by have:=(HO.out.lt A e).2;omega)))
      replace HD4:=hid (show Drew w1 bt W6 by rw [hW6];exact HD4.out.setCell hbt1 _ _ (by show w1.heap.size≤A;omega))
      clear hW6 ca fa
      go_roundg (gk - 1)
      case measure=>omega
      case rel=>exact ⟨k+1,ws++[u],ss++[s],by go_num,by omega,by omega,by rw [List.length_append,HWL.out];rfl,HWA.out.snoc ⟨hu1,hu2⟩ hs,HVT.out,HAT.out,HO4.out,HD4.out⟩
    · obtain rfl:k=n:=by omega
      replace HVT:=hid (show At wr V 0 (cI ws) by have:=HVT.out;rw [show fz ws k=ws by rw [←HWL.out];exact fz_full ws] at this;exact this)
      replace HAT:=hid (show At wr A 0 (cI ss) by have:=HAT.out;rw [show fz ss k=ss by rw [←HSL.out];exact fz_full ss] at this;exact this)
      go_wp2_with fail
      refine (mod_any next 73049 wr (by decide)).mono ?_
      rintro e w3 ⟨rfl,rfl⟩
      have hnb:=modI_bd next 73049 (by decide)
      obtain ⟨nx,hnx⟩:∃ nx,nx=modI next 73049:=⟨_,rfl⟩
      rw [←hnx] at hnb ⊢
      have HE:=hid (carryE_made (next:=nx) HM.out (by decide) HWA.out (by rw [HWL.out];exact HNL.out) ⟨hnb.1,by omega⟩)
      have hTK:TksAt wr (.slice A0 k cap0) l:=by have:=Rd.of_own HO4.out;rw [HNL.out] at this ⊢;exact this
      have HTK:=hid hTK
      have HRV:=hid (HVT.out.row (cap:=k) HWL.out (by omega))
      have HRA:=hid (HAT.out.row (cap:=k) HSL.out (by omega))
      have HBW:=hid (show Below w.heap.size w wr by rw [←HBT.out];exact HB1.out.trans (below_grownBy HD4.out.2 (Nat.le_refl _) (by omega)))
      clear hnx hnb hTK
      go_wp2_with fail
      refine (carry_any l ws ss nx _ _ _ wr HTK.out HRV.out HRA.out).mono ?_
      rintro e w5 ⟨hb5,h5|⟨_,v5,rfl,ht5⟩⟩
      · obtain ⟨c,hc,_⟩:=h5
        rw [HE.out] at hc;cases hc
      obtain ⟨r,hrr⟩:∃ r,r=(carryL nx l ws ss).length:=⟨_,rfl⟩
      obtain ⟨hr0,hr1,AX,capX,hv5,hr2⟩:=ht5
      subst hv5
      rw [←hrr] at hr0 hr1 hr2 ⊢
      have hr8:r≤8:=by rw [hrr];have:=carry_len nx l ws ss;rw [←HNL.out] at this;omega
      have HR2:=hid hr2
      have HRR:=hid hrr
      have HB5:=hid (HBW.out.trans (hb5.mono HBW.out.size))
      replace HVT:=hid (HVT.out.below hb5)
      replace HAT:=hid (HAT.out.below hb5)
      replace HTK:=hid (TksAt.below HTK.out hb5)
      clear hb5 hr0 hr1 hr2 hrr HO4 HD4 HO HD HRV HRA HBW HT1 HB1
      obtain ⟨C,hC⟩:∃ C,C=carryL nx l ws ss:=⟨_,rfl⟩
      have HC:=hid hC
      clear hC
      go_wp2
      go_loopg [14,15,16] k (fun m pv iv _ wz=>∃ j:Nat,iv=.int .i64 j∧j≤k∧k≤m+j∧pv=.int .i64 ((carryL nx (l.take j) (ws.take j) (ss.take j)).length:Nat)∧Below w5.heap.size w5 wz)
      case atStart=>exact ⟨0,rfl,by omega,by omega,by simp [carryL],Below.refl _ _⟩
      case round =>
        obtain ⟨j,rfl,hj,hm2,rfl,hbz⟩:=hrel
        have HBZ:=hid hbz
        obtain ⟨p,hp⟩:∃ p,p=(carryL nx (l.take j) (ws.take j) (ss.take j)).length:=⟨_,rfl⟩
        rw [←hp]
        have HP:=hid hp
        have hp8:p≤8:=by rw [hp];have:=carry_len nx (l.take j) (ws.take j) (ss.take j);rw [List.length_take] at this;omega
        clear hp
        by_cases hlt:j<k
        · obtain ⟨x,hx⟩:∃ x,l[j]?=some x:=⟨l[j]'(by rw [←HNL.out];exact hlt),by simp [←HNL.out,hlt]⟩
          obtain ⟨wv,hwv⟩:∃ y,ws[j]?=some y:=⟨ws[j]'(by rw [HWL.out];exact hlt),by simp [HWL.out,hlt]⟩
          obtain ⟨av,hav⟩:∃ y,ss[j]?=some y:=⟨ss[j]'(by rw [HSL.out];exact hlt),by simp [HSL.out,hlt]⟩
          obtain ⟨hw1,hw2,ha1,ha2⟩:=HWA.out.2 j wv av hwv hav
          have cv:wr.cell? ⟨V,j,none⟩=some (.int .i64 wv):=(HVT.out.below hbz).cI0 hwv
          have ca:wr.cell? ⟨A,j,none⟩=some (.int .i64 av):=(HAT.out.below hbz).cI0 hav
          have hsn:=carry_snoc nx hx hwv hav
          have hjI:(j:Int)<(k:Int):=by omega
          by_cases heq:av=wv
          · subst heq
            rw [if_neg (by omega),List.append_nil] at hsn
            have HSN:=hid hsn
            clear hsn hx hwv hav hbz
            go_upto_region 17 with fail
            go_quiet (fail)
            go_wp2
            go_roundg (gk - 1)
            case measure=>omega
            case rel=>exact ⟨j+1,by go_num,by omega,by omega,by rw [HSN.out,HP.out],below_drewN HBZ.out _⟩
          · have hne:(av==wv)=false:=beq_eq_false_iff_ne.2 heq
            have hlw:av<wv:=by omega
            rw [if_pos hlw] at hsn
            replace hsn:=congrArg List.length hsn
            rw [List.length_append,←HP.out] at hsn
            have hat:=carry_at hx hwv hav hlw (next:=nx)
            rw [←HP.out] at hat
            have hpr:p<r:=by rw [HRR.out];exact (List.getElem?_eq_some_iff.1 hat).1
            have HSN:=hid hsn
            obtain ⟨gx,ox,hAX,hcx⟩:=HR2.out (by omega)
            subst hAX
            obtain ⟨g,off,capg,hvg,hcg⟩:=tks_some (TksAt.below HTK.out hbz) (by rw [←HNL.out];omega)
            injection hvg with hg1 hg2 hg3
            subst hg1
            clear hg2 hg3
            have rx:w5.rangeAt gx (ox+p*13) [.string x.o.key,.string x.o.nom,.string x.o.hol,.string x.o.fund,.string x.o.cls,.int .i64 3,.int .i64 0,.int .i64 (wv - av),.int .i64 x.o.at_,.int .i64 x.o.known,.bool x.o.void,.int .i64 nx,.int .i64 x.first]:=fun q u hq=>by rw [Nat.add_assoc];exact hcx _ _ (cellsT_get _ p _ hat q u hq)
            have RX:=hid (ranges_up rx hbz)
            have RG:=hid (show wr.rangeAt g (off+j*13) [.string x.o.key,.string x.o.nom,.string x.o.hol,.string x.o.fund,.string x.o.cls,.int .i64 x.o.kind,.int .i64 x.o.amount,.int .i64 x.o.units,.int .i64 x.o.at_,.int .i64 x.o.known,.bool x.o.void] from fun q u hq=>hcg j x hx q u (by
              have hq11:q<11:=(List.getElem?_eq_some_iff.1 hq).1
              rw [show x.cells=[.string x.o.key,.string x.o.nom,.string x.o.hol,.string x.o.fund,.string x.o.cls,.int .i64 x.o.kind,.int .i64 x.o.amount,.int .i64 x.o.units,.int .i64 x.o.at_,.int .i64 x.o.known,.bool x.o.void]++[.int .i64 x.day,.int .i64 x.first] from rfl,List.getElem?_append_left hq11];exact hq))
            have HFI:=hid (show wr.cell? ⟨g,off+j*13+12,none⟩=some (.int .i64 x.first) from hcg j x hx 12 _ rfl)
            have hprI:¬(r:Int)≤(p:Int):=by omega
            have wd:IntKind.i64.wrap (wv - av)=wv - av:=IntWalk.i64_in _ (by omega)
            have SCO:=hid (show (Tryz.prog.info? 63).map (·.size)=some ([.string x.o.key,.string x.o.nom,.string x.o.hol,.string x.o.fund,.string x.o.cls,.int .i64 x.o.kind,.int .i64 x.o.amount,.int .i64 x.o.units,.int .i64 x.o.at_,.int .i64 x.o.known,.bool x.o.void]:List Value).length by kernel_rfl)
            have SCN:=hid (show (Tryz.prog.info? 63).map (·.size)=some ([.string x.o.key,.string x.o.nom,.string x.o.hol,.string x.o.fund,.string x.o.cls,.int .i64 3,.int .i64 0,.int .i64 (wv - av),.int .i64 x.o.at_,.int .i64 x.o.known,.bool x.o.void]:List Value).length by kernel_rfl)
            have SCT:=hid (show (Tryz.prog.info? 65).map (·.size)=some ([.string x.o.key,.string x.o.nom,.string x.o.hol,.string x.o.fund,.string x.o.cls,.int .i64 3,.int .i64 0,.int .i64 (wv - av),.int .i64 x.o.at_,.int .i64 x.o.known,.bool x.o.void,.int .i64 nx,.int .i64 x.first]:List Value).length by kernel_rfl)
            clear hsn hx hwv hav rx hat hcx hcg heq
            go_upto_region 17 with fail
            have FR:=hid (Fr.start wr)
            have FR0:=hid FR.out.le
            refine wfn [] [(76,.slice (some ⟨A,0,none⟩) k k),(77,.int .i64 (j:Int)),(78,.pointer (some ⟨A,j,none⟩)),(79,.int .i64 av),(80,.slice (some ⟨V,0,none⟩) k k),(81,.int .i64 (j:Int)),(82,.pointer (some ⟨V,j,none⟩)),(83,.int .i64 wv),(84,.bool false)] _ (by simp only [zz4,zz5,zq];rfl) (by kernel_rfl) (by kernel_rfl) rfl ?_ ?_ ?_ ?_
            · intro W' hW'
              have ya:=qcU ca hW'
              have yv:=qcU cv hW'
              iterate 3 (refine fxo ?_ ?_;(go_big_quiet_step (fail);(try simp only [zq]);exact wqn rfl))
              refine fxo (wcg (by rfl) rfl rfl (fun W h=>by simp [loadVar,h,go_sem]) ya (wqn (by simp only [zq]))) ?_
              iterate 3 (refine fxo ?_ ?_;(go_big_quiet_step (fail);(try simp only [zq]);exact wqn rfl))
              refine fxo (wcg (by rfl) rfl rfl (fun W h=>by simp [loadVar,h,go_sem]) yv (wqn (by simp only [zq]))) ?_
              refine fxo ?_ ?_;(go_big_quiet_step (fail);(try simp only [zq]);exact wqn rfl)
              exact fxn
            · exact oN
            · exact oN
            intro β wx1 E
            replace FR:=hid (FR.out.fnw E rfl)
            have hE:=E.below rfl
            simp only [nP,zr,zq]
            replace FR0:=hid FR.out.le
            clear E
            obtain ⟨W7,hW7⟩:∃ W7,W7=wx1:=⟨_,rfl⟩
            rw [←hW7] at hE ⊢
            have hb7:=hE
            clear hE FR FR0
            replace RX:=hid (ranges_up RX.out hb7)
            replace RG:=hid (ranges_up RG.out hb7)
            replace HFI:=hid (qcU HFI.out hb7)
            replace cv:=qcU cv hb7
            replace ca:=qcU ca hb7
            replace HBZ:=hid (HBZ.out.trans (hb7.mono HBZ.out.size))
            clear hW7 hb7 hbz
            have lV:=World.block_lt_of_cell? _ _ cv
            have lA:=World.block_lt_of_cell? _ _ ca
            have lG:=World.block_lt_of_cell? _ _ HFI.out
            have lX:=World.block_lt_of_cell? _ _ (RX.out 0 _ rfl)
            simp only at lV lA lG lX
            obtain ⟨oc,hoc⟩:∃ c:List Value,c=[.string x.o.key,.string x.o.nom,.string x.o.hol,.string x.o.fund,.string x.o.cls,.int .i64 x.o.kind,.int .i64 x.o.amount,.int .i64 x.o.units,.int .i64 x.o.at_,.int .i64 x.o.known,.bool x.o.void]:=⟨_,rfl⟩
            have HOC:=hid hoc
            rw [←hoc] at RG SCO
            have ONO:=hid (show oc.toArray.all (·.oneCell')=true by rw [hoc];simp [Value.oneCell'])
            have OLN:=hid (show oc.length=(#[.string ⟨#[]⟩,.string ⟨#[]⟩,.string ⟨#[]⟩,.string ⟨#[]⟩,.string ⟨#[]⟩,.int .i64 0,.int .i64 0,.int .i64 0,.int .i64 0,.int .i64 0,.bool false]:Array Value).size by rw [hoc];rfl)
            clear hoc
            go_upto_region 21 with (first|(refine wpList_load_mid rfl _ _ rfl g (off+j*13) rfl oc _ RG.out Tryz.underlying63 rfl SCO.out ?_)|(refine wpList_newOf Tryz.layO rfl rfl rfl rfl (cs:=oc) rfl rfl OLN.out SCO.out ONO.out ?_;intro W8 hb8 hA8;(try simp only [zq])))
            obtain ⟨X,hX⟩:∃ X,X=W7.heap.size:=⟨_,rfl⟩
            rw [←hX] at hA8 ⊢
            replace RX:=hid (ranges_up RX.out hb8)
            replace HFI:=hid (qcU HFI.out hb8)
            replace cv:=qcU cv hb8
            replace ca:=qcU ca hb8
            have HB7:=hid HBZ.out
            replace HBZ:=hid (HBZ.out.trans (hb8.mono HBZ.out.size))
            rw [HOC.out] at hA8
            have HA8:=hid hA8
            have hb8s:=hb8.size
            have hX5:w5.heap.size≤X:=by rw [hX];exact HB7.out.size
            rw [←hX] at lV lA lG lX
            have nV:V≠X:=Nat.ne_of_lt lV
            have nA:A≠X:=Nat.ne_of_lt lA
            have nG:g≠X:=Nat.ne_of_lt lG
            have nX:gx≠X:=Nat.ne_of_lt lX
            have f5:=HA8.out.cel (k:=5) rfl
            have f6:=HA8.out.cel (k:=6) rfl
            have f7:=HA8.out.cel (k:=7) rfl
            have z5:=HA8.out.frz (k:=5) (by show 5<11;decide)
            have z6:=HA8.out.frz (k:=6) (by show 6<11;decide)
            have z7:=HA8.out.frz (k:=7) (by show 7<11;decide)
            clear hb8 hA8 hX hb8s
            have HA7:=hid (show At (((W8.setCell ⟨X,5,none⟩ (.int .i64 3)).setCell ⟨X,6,none⟩ (.int .i64 0)).setCell ⟨X,7,none⟩ (.int .i64 (wv - av))) X 0 [.string x.o.key,.string x.o.nom,.string x.o.hol,.string x.o.fund,.string x.o.cls,.int .i64 3,.int .i64 0,.int .i64 (wv - av),.int .i64 x.o.at_,.int .i64 x.o.known,.bool x.o.void] from ((HA8.out.oneSet (k:=5) (by show 5<11;decide)).oneSet (k:=6) (by show 6<11;decide)).oneSet (k:=7) (by show 7<11;decide))
            have HG7:=hid (show W8.grownBy (((W8.setCell ⟨X,5,none⟩ (.int .i64 3)).setCell ⟨X,6,none⟩ (.int .i64 0)).setCell ⟨X,7,none⟩ (.int .i64 (wv - av))) (some X) from gBt (gBt (grownBy_setCell _ rfl _) (grownBy_setCell _ rfl _)) (grownBy_setCell _ rfl _))
            go_cut [] from 70 to 120 (fun wx=>At wx X 0 [.string x.o.key,.string x.o.nom,.string x.o.hol,.string x.o.fund,.string x.o.cls,.int .i64 3,.int .i64 0,.int .i64 (wv - av),.int .i64 x.o.at_,.int .i64 x.o.known,.bool x.o.void]∧W8.grownBy wx (some X))
            case first =>
              go_region
              all_goals go_wp2_with fail
              all_goals go_meet
              all_goals exact ⟨HA7.out.below (below_drew (Below.refl _ _)),gBt HG7.out (grownBy_below (below_drew (Below.refl _ _)) _)⟩
            case rest =>
            obtain ⟨hat9,hg9⟩:=hcut
            obtain ⟨W9,hW9⟩:∃ W9,W9=wc:=⟨_,rfl⟩
            rw [←hW9] at hat9 hg9 ⊢
            have HA9:=hid hat9
            replace RX:=hid (show W9.rangeAt gx (ox+p*13) [.string x.o.key,.string x.o.nom,.string x.o.hol,.string x.o.fund,.string x.o.cls,.int .i64 3,.int .i64 0,.int .i64 (wv - av),.int .i64 x.o.at_,.int .i64 x.o.known,.bool x.o.void,.int .i64 nx,.int .i64 x.first] from fun q u hq=>hg9.cell (RX.out q u hq) (fun e=>by injection e with e;exact nX e))
            replace HFI:=hid (hg9.cell HFI.out (fun e=>by injection e with e;exact nG e))
            replace HBZ:=hid (HBZ.out.trans (below_grownBy hg9 hX5 HBZ.out.size))
            clear hat9 hg9
            clear hW9 f5 f6 f7 z5 z6 z7 cv ca
            go_upto_region 22 with fail
            have FR:=hid (Fr.start W9)
            have FR0:=hid FR.out.le
            refine wfn [] [(106,.slice (some ⟨gx,ox,none⟩) r capX),(107,.int .i64 (p:Int)),(108,.pointer (some ⟨gx,ox+p*13,none⟩)),(109,.agg #[.string x.o.key,.string x.o.nom,.string x.o.hol,.string x.o.fund,.string x.o.cls,.int .i64 3,.int .i64 0,.int .i64 (wv - av),.int .i64 x.o.at_,.int .i64 x.o.known,.bool x.o.void,.int .i64 nx,.int .i64 x.first]),(110,.agg #[.string x.o.key,.string x.o.nom,.string x.o.hol,.string x.o.fund,.string x.o.cls,.int .i64 3,.int .i64 0,.int .i64 (wv - av),.int .i64 x.o.at_,.int .i64 x.o.known,.bool x.o.void]),(111,.int .i64 nx),(112,.slice (some ⟨g,off,none⟩) k cap0),(113,.int .i64 (j:Int)),(114,.pointer (some ⟨g,off+j*13,none⟩)),(115,.pointer (some ⟨g,off+j*13+12,none⟩)),(116,.int .i64 x.first),(117,.agg #[.string x.o.key,.string x.o.nom,.string x.o.hol,.string x.o.fund,.string x.o.cls,.int .i64 3,.int .i64 0,.int .i64 (wv - av),.int .i64 x.o.at_,.int .i64 x.o.known,.bool x.o.void,.int .i64 nx,.int .i64 x.first]),(118,.bool false)] _ (by simp only [zz4,zz5,zq];rfl) (by kernel_rfl) (by kernel_rfl) rfl ?_ ?_ ?_ ?_
            · intro W' hW'
              have ra:=ranges_up RX.out hW'
              have rb:=ranges_up HA9.out.range hW'
              have rc:=qcU HFI.out hW'
              iterate 3 (refine fxo ?_ ?_;(go_big_quiet_step (fail);(try simp only [zq]);exact wqn rfl))
              refine fxo (wlq (by rfl) _ _ rfl _ _ rfl [.string x.o.key,.string x.o.nom,.string x.o.hol,.string x.o.fund,.string x.o.cls,.int .i64 3,.int .i64 0,.int .i64 (wv - av),.int .i64 x.o.at_,.int .i64 x.o.known,.bool x.o.void,.int .i64 nx,.int .i64 x.first] _ ra Tryz.underlying65 rfl SCT.out (wqn (by simp only [zq]))) ?_
              refine fxo (wlq (by rfl) _ _ rfl _ _ rfl [.string x.o.key,.string x.o.nom,.string x.o.hol,.string x.o.fund,.string x.o.cls,.int .i64 3,.int .i64 0,.int .i64 (wv - av),.int .i64 x.o.at_,.int .i64 x.o.known,.bool x.o.void] _ rb Tryz.underlying63 rfl SCN.out (wqn (by simp only [zq]))) ?_
              iterate 5 (refine fxo ?_ ?_;(go_big_quiet_step (fail);(try simp only [zq]);exact wqn rfl))
              refine fxo (wcg (by rfl) rfl rfl (fun W h=>by simp [loadVar,h,go_sem]) rc (wqn (by simp only [zq]))) ?_
              refine fxo (wpQuiet_build_g (by rfl) _ _ rfl _ rfl #[.string x.o.key,.string x.o.nom,.string x.o.hol,.string x.o.fund,.string x.o.cls,.int .i64 3,.int .i64 0,.int .i64 (wv - av),.int .i64 x.o.at_,.int .i64 x.o.known,.bool x.o.void,.int .i64 nx,.int .i64 x.first] (built_Tk _ _ _ _ _ _ _ _ _ _ _ _ _) (wqn (by simp only [zq]))) ?_
              refine fxo (wpQuiet_neT (T:=x.over (wv - av) nx) (by rfl) rfl (by rfl) (by rfl) (wqn (by simp only [zq]))) ?_
              exact fxn
            · exact oN
            · exact oN
            intro β wx1 E
            replace FR:=hid (FR.out.fnw E rfl)
            have hE:=E.below rfl
            simp only [nP,zr,zq]
            replace FR0:=hid FR.out.le
            clear E
            replace HBZ:=hid (HBZ.out.trans (hE.mono HBZ.out.size))
            clear hE
            go_wp2
            go_roundg (gk - 1)
            case measure=>omega
            case rel=>exact ⟨j+1,by go_num,by omega,by omega,by rw [HSN.out];go_num,HBZ.out⟩
        · obtain rfl:j=k:=by omega
          obtain rfl:p=r:=by
            rw [HP.out,HRR.out,List.take_of_length_le (by rw [←HNL.out];exact Nat.le_refl _),List.take_of_length_le (by rw [HWL.out];exact Nat.le_refl _),List.take_of_length_le (by rw [HSL.out];exact Nat.le_refl _)]
          replace HBZ:=hid (HB5.out.trans (HBZ.out.mono HB5.out.size))
          replace HVT:=hid (HVT.out.below hbz)
          replace HAT:=hid (HAT.out.below hbz)
          replace HTK:=hid (TksAt.below HTK.out hbz)
          clear hbz
          by_cases hk0:j=0
          · have hk1:¬(0:Int)<(j:Int):=by omega
            clear hk0
            go_wp2_with fail
            refine (awake_any _).mono ?_
            rintro e w9 ⟨rfl,hb9⟩
            have HB9:=hid (HBZ.out.trans (hb9.mono HBZ.out.size))
            clear hb9
            go_wp2
            go_ret
            exact ⟨rfl,HB9.out⟩
          · have hk1:(0:Int)<(j:Int):=by omega
            go_wp2_with fail
            refine (mod_any spoil (j:Int) wr (by omega)).mono ?_
            rintro e w6 ⟨rfl,rfl⟩
            have hib:=modI_bd spoil (j:Int) (by omega)
            obtain ⟨i,hi⟩:∃ i:Nat,modI spoil (j:Int)=(i:Int):=⟨(modI spoil (j:Int)).toNat,by omega⟩
            rw [hi] at hib ⊢
            have hij:i<j:=by omega
            obtain ⟨wv,hwv⟩:∃ y,ws[i]?=some y:=⟨ws[i]'(by rw [HWL.out];exact hij),by simp [HWL.out,hij]⟩
            obtain ⟨av,hav⟩:∃ y,ss[i]?=some y:=⟨ss[i]'(by rw [HSL.out];exact hij),by simp [HSL.out,hij]⟩
            obtain ⟨hw1,hw2,ha1,ha2⟩:=HWA.out.2 i wv av hwv hav
            have HE2:=hid (carryE_spoilt (next:=nx) HM.out (by decide) HWA.out (by rw [HWL.out];exact HNL.out) hwv)
            have cv:wr.cell? ⟨V,i,none⟩=some (.int .i64 wv):=HVT.out.cI0 hwv
            have ca:wr.cell? ⟨A,i,none⟩=some (.int .i64 av):=HAT.out.cI0 hav
            have fa:wr.frozen? ⟨A,i,none⟩=false:=HAT.out.frz (by rw [cI_len,HSL.out];exact hij)
            have wd:IntKind.i64.wrap (wv+1)=wv+1:=IntWalk.i64_in _ (by omega)
            clear hi hib hwv hav hk0
            go_upto_region 30 with fail
            obtain ⟨W10,hW10⟩:∃ W10,W10=wr.setCell ⟨A,i,none⟩ (.int .i64 (wv+1)):=⟨_,rfl⟩
            rw [←hW10]
            replace HAT:=hid (show At W10 A 0 (cI (ss.set i (wv+1))) by rw [hW10];exact HAT.out.cIset (by rw [HSL.out];exact hij))
            replace HVT:=hid (show At W10 V 0 (cI ws) by rw [hW10];exact HVT.out.othSet _ _ hAV)
            replace HTK:=hid (show TksAt W10 (.slice A0 j cap0) l by
              have h:=HTK.out
              unfold TksAt at h ⊢
              rw [←HNL.out] at h ⊢
              rw [hW10]
              exact Rd.setC h ⟨A,i,none⟩ _ (fun g off h=>by have:=HGA.out g off h;show A≠g;omega))
            replace HBZ:=hid (show Below w.heap.size w W10 by rw [hW10];exact below_set1 HBZ.out _ _ (by show w.heap.size≤A;have:=HBT.out;omega))
            have HRV:=hid (HVT.out.row (n:=j) (cap:=j) HWL.out (by omega))
            have HRA:=hid (HAT.out.row (n:=j) (cap:=j) (by rw [List.length_set];exact HSL.out) (by omega))
            clear hW10 cv ca fa
            go_wp2_with fail
            refine (carry_any l ws (ss.set i (wv+1)) nx _ _ _ W10 HTK.out HRV.out HRA.out).mono ?_
            rintro e w11 ⟨hb,h|⟨h,_⟩⟩
            · obtain ⟨c,hc,rfl⟩:=h
              rw [HE2.out] at hc
              injection hc with hc
              subst hc
              have HB11:=hid (HBZ.out.trans (hb.mono HBZ.out.size))
              clear hb
              go_wp2_with fail
              refine (awake_any _).mono ?_
              rintro e w9 ⟨rfl,hb9⟩
              have HB9:=hid (HB11.out.trans (hb9.mono HB11.out.size))
              clear hb9
              go_wp2
              go_ret
              exact ⟨rfl,HB9.out⟩
            · rw [HE2.out] at h;cases h
end Go.Proofs.YtooeabibhjbkoaaGreat
