import Derived.Test.YtmcekgapelanhaaGreatBiX
import Derived.Test.YtmcekgapelanhaaGreatBkO
import Derived.Great.BuildSlice
set_option linter.unusedVariables false
set_option linter.unusedSimpArgs false
set_option maxRecDepth 100000
set_option maxHeartbeats 8000000
namespace Go.Proofs.YtmcekgapelanhaaGreat
open Go.RowKit Big
open Lib (hid)
theorem At.sets {w:World} {b o:Nat} {cs:List Value} (h:At w b o cs) {b2:Nat} (hb:b2≠b) (o2:Nat) (vs:List Value):At (w.setCells b2 o2 vs) b o cs :=
 ⟨ranges_sets h.range vs b2 o2 hb,there_sets h.there vs o2 hb,by rw [size_sets];exact h.lt⟩
def SlAt (n:Nat) (cs:List Value) (v:Value) (w:World):Prop:=∃ b,v=.slice (some ⟨b,0,none⟩) n n∧At w b 0 cs
def ftSl (v:Value) (q:Nat):Prop:=∃ n c,v=.slice (some ⟨q,0,none⟩) n c
theorem ghSl (n:Nat) (cs:List Value):GhOk (fun _=>SlAt n cs) (fun _=>ftSl) :=
 ⟨fun _ v w w' ⟨b,h1,h2⟩ hb=>⟨b,h1,h2.below hb⟩,fun _ v w b o cs ⟨b1,h1,h2⟩ hq=>⟨b1,h1,h2.sets (fun e=>hq b1 ⟨n,n,h1⟩ e.symm) o cs⟩⟩
theorem GY.build {P:Program} {fin:Act} {o:Oper} {W:World} {t e:TypeId} {len s:Nat} {parts:Array (Nat × Operand)} (css:List (List Value)) (ho:o.op=.buildSlice t len parts)
  (hparts:(parts.map fun (i,x)=>(i,fin.eval x)).toList=((css.map fun c=>Value.agg c.toArray).zipIdx 0).map fun x=>(x.2,x.1)) (hlen:len=css.length) (hpos:0<len) (hs:0<s) (hcs:∀ c∈css,c.length=s) (hsmall:len*s≤2^24)
  (hu:P.underlying t=some (.slice e)) (hsz:(P.info? e).map (·.size)=some s) (hz:((P.info? e).bind (·.zero)).isSome=true) {X:Nat→Prop} :
  GY P fin o W (fun v w''=>Below W.heap.size W w''∧SlAt len css.flatten v w''∧∀ q,ftSl v q→(W.heap.size≤q∧q<w''.heap.size)∨X q):=by
 cases hie:P.info? e with
 | none=>simp [hie] at hsz
 | some ie =>
  simp only [hie,Option.map_some,Option.some.injEq,Option.bind_some] at hsz hz
  obtain ⟨z,hzz⟩:=Option.isSome_iff_exists.1 hz
  have hfl:(css.map fun c=>Value.agg c.toArray).flatMap (fun v=>v.cells.toList)=css.flatten:=by
   rw [List.flatMap_map]
   induction css with
   | nil=>rfl
   | cons c l ih=>simp [List.flatMap_cons,Value.cells]
  have hrun:(execOp fin.eval o).run P W=.ok (.value (.slice (some ⟨W.heap.size,0,none⟩) len len)) (W.alloc (.cells css.flatten.toArray e)):=by
   unfold execOp
   have hp:0<len*ie.size:=Nat.mul_pos hpos (by omega)
   simp only [ho,Sem.run_bind,run_buildSlice W t e len _ _ ie z hu hie hzz (by rw [hsz];omega) (by omega) (by
    rw [hparts,hsz]
    exact Great.fill_whole hs _ _ (fun v hv=>by obtain ⟨c,hc,rfl⟩:=List.mem_map.1 hv;simpa [Value.cells] using hcs c hc) (by simp [hlen])),Result.andThen_ok]
   rw [hfl];rfl
  refine GY.value hrun ⟨(Below.refl _ _).alloc (Nat.le_refl _) _,⟨W.heap.size,rfl,At.fresh W css.flatten e rfl⟩,fun q hq=>?_⟩
  obtain ⟨n,c,hq⟩:=hq
  injection hq with h1 h2 h3
  injection h1 with h1
  injection h1 with h1
  exact .inl ⟨by omega,by simp;omega⟩
theorem wpList_buildRows {P:Program} {ops:Array Oper} {rest:List Oper} {o:Oper} {a:Act} {w:World} {Q:Exit→Act→World→Prop} (hg:o.guard=none) {t e:TypeId} {len s:Nat} {parts:Array (Nat × Operand)} (css:List (List Value)) (ho:o.op=.buildSlice t len parts)
  (hparts:(parts.map fun (i,x)=>(i,a.eval x)).toList=((css.map fun c=>Value.agg c.toArray).zipIdx 0).map fun x=>(x.2,x.1)) (hlen:len=css.length) (hpos:0<len) (hs:0<s) (hcs:∀ c∈css,c.length=s) (hsmall:len*s≤2^24)
  (hu:P.underlying t=some (.slice e)) (hsz:(P.info? e).map (·.size)=some s) (hz:((P.info? e).bind (·.zero)).isSome=true)
  (h:wpList P ops Q rest (a.put o.dst (.slice (some ⟨w.heap.size,0,none⟩) len len)) (w.alloc (.cells css.flatten.toArray e))):wpList P ops Q (o::rest) a w:=by
 cases hie:P.info? e with
 | none=>simp [hie] at hsz
 | some ie =>
  simp only [hie,Option.map_some,Option.some.injEq,Option.bind_some] at hsz hz
  obtain ⟨z,hzz⟩:=Option.isSome_iff_exists.1 hz
  have hp:0<len*ie.size:=Nat.mul_pos hpos (by omega)
  refine wpList_buildSlice hg t e len parts ho _ ie z hu hie hzz (by rw [hsz];omega) (by omega) (by
    rw [hparts,hsz]
    exact Great.fill_whole hs _ _ (fun v hv=>by obtain ⟨c,hc,rfl⟩:=List.mem_map.1 hv;simpa [Value.cells] using hcs c hc) (by simp [hlen])) ?_
  have hfl:(css.map fun c=>Value.agg c.toArray).flatMap (fun v=>v.cells.toList)=css.flatten:=by
   rw [List.flatMap_map]
   induction css with
   | nil=>rfl
   | cons c l ih=>simp [List.flatMap_cons,Value.cells]
  rw [hfl];exact h
theorem wpList_buildRow1 {P:Program} {ops:Array Oper} {rest:List Oper} {o:Oper} {a:Act} {w:World} {Q:Exit→Act→World→Prop} (hg:o.guard=none) {t e:TypeId} {s:Nat} {parts:Array (Nat × Operand)} (c:List Value) (ho:o.op=.buildSlice t 1 parts)
  (hparts:(parts.map fun (i,x)=>(i,a.eval x)).toList=[(0,.agg c.toArray)]) (hs:0<s) (hcs:c.length=s) (hsmall:1*s≤2^24)
  (hu:P.underlying t=some (.slice e)) (hsz:(P.info? e).map (·.size)=some s) (hz:((P.info? e).bind (·.zero)).isSome=true)
  (h:wpList P ops Q rest (a.put o.dst (.slice (some ⟨w.heap.size,0,none⟩) 1 1)) (w.alloc (.cells c.toArray e))):wpList P ops Q (o::rest) a w :=
 wpList_buildRows hg (len:=1) [c] ho hparts rfl (by decide) hs (fun x hx=>by rw [List.mem_singleton.1 hx];exact hcs) hsmall hu hsz hz (by simpa using h)
def mulF (p x:Bool × Nat):Bool × Nat:=(cs1 (p.1 != x.1) (p.2*x.2),p.2*x.2)
def prodL (l:List (Bool × Nat)):Bool × Nat:=l.foldl mulF (false,1)
def cellsI (l:List (Bool × Nat)):List Value:=l.flatMap fun x=>.bool x.1::lv 32 x.2
theorem cellsI_len (l:List (Bool × Nat)):(cellsI l).length=l.length*33:=by
 induction l with
 | nil=>rfl
 | cons x l ih=>simp only [cellsI,List.flatMap_cons,List.length_append,List.length_cons,qlL] at ih ⊢;rw [ih];omega
theorem cellsI_mid (l:List (Bool × Nat)) (k:Nat) (x:Bool × Nat) (h:l[k]?=some x):∃ a b,cellsI l=a++((.bool x.1::lv 32 x.2)++b)∧a.length=k*33:=by
 obtain ⟨hk,hx⟩:=List.getElem?_eq_some_iff.1 h
 refine ⟨cellsI (l.take k),cellsI (l.drop (k+1)),?_,by rw [cellsI_len,List.length_take,Nat.min_eq_left (by omega)]⟩
 have:l=l.take k++x::l.drop (k+1):=by
  rw [←hx,←List.drop_eq_getElem_cons hk,List.take_append_drop]
 conv=>lhs;rw [this]
 simp [cellsI,List.flatMap_append]
theorem prodL_snoc {l:List (Bool × Nat)} {k:Nat} {x:Bool × Nat} (h:l[k]?=some x):prodL (l.take (k+1))=mulF (prodL (l.take k)) x:=by
 rw [List.take_add_one,h];simp [prodL,List.foldl_append]
theorem product_op {l:List (Bool × Nat)} {n bs:Nat} {c:List Value} {s:Bool} {P:Nat} (hn:n=l.length) (hn3:n≤10) (hc:c=.bool s::lv 32 P) (hP:(s,P)=prodL l) (hb:∀ x∈l,x.2<BB^32) (hlt:∀ k,(prodL (l.take k)).2<BB^32) (w:World) (hA:At w bs 0 (cellsI l)) :
  Calls Tryz.prog 40 #[.slice (some ⟨bs,0,none⟩) n n] w fun e w'=>e=.returned (.agg c.toArray)∧Below w.heap.size w w':=by
 have V_c:=hid hc
 have HP:=hid hP
 have HB:=hid hb
 have HL:=hid hlt
 have HN:=hid hn
 have ABS:=hid hA
 have lbs:=hA.lt
 clear hc hP hb hlt hn hA
 obtain ⟨cy,V_cy⟩:∃ c:List Value,Hid (c=.bool false::lv 32 0):=⟨_,hid rfl⟩
 obtain ⟨c1,V_c1⟩:∃ c:List Value,Hid (c=.bool false::lv 32 1):=⟨_,hid rfl⟩
 have HF1:=hid (fun W=>pfrom_op (z:=1) V_c1.out (by decide) (by decide) (by omega) (by omega) W)
 obtain ⟨B0,hB0⟩:∃ B,B=w.heap.size:=⟨_,rfl⟩
 obtain ⟨w0,hw0⟩:∃ w0,w0=(w.alloc (.cells zero33 25)):=⟨_,rfl⟩
 have AB0:=hid (show At w0 B0 0 cy by rw [hw0];exact (show At (w.alloc (.cells zero33 25)) B0 0 cy from (by rw [V_cy.out];exact At.zero _ _ (by simp [hB0]))))
 have FR:=hid (show Fr B0 w w0 by rw [hw0,hB0];exact (Fr.start w).alloc _)
 have FR0:=hid FR.out.le
 have hZB0:B0≤B0:=Nat.le_refl _
 unfold zero33 at hw0
 have HB0:=hid hB0
 go_enter Tryz.func40,Tryz.ntmps40
 go_upto_region 1 with fail
 rw [←hw0,←hB0]
 clear hw0 hB0
 rw [←HB0.out] at lbs
 replace ABS:=hid (ABS.out.below (by have:=FR.out.below;rwa [HB0.out] at this))
 refine wfn [⟨true,1,3,2,0,0,25,6,c1,0,c1,[]⟩] [(6,.agg c1.toArray)] _ (by simp only [zz4,zz5,zq];rfl) (by kernel_rfl) (by kernel_rfl) rfl ?_ ?_ ?_ ?_
 ·intro W' hW'
  refine fxo ?_ ?_;(go_big_quiet_step ((go_at_call 39;exact Calls.below_of (HF1.out _)));(try simp only [zq]);exact wqn rfl)
  iterate 2 (refine fxs (by rfl) ?_)
  exact fxn
 ·exact oP _ _ (Tryz.alI (qI V_c1.out)) (oN)
 ·exact oP _ _ (stw rfl (qI V_c1.out) (oneI V_c1.out) (fun _=>rfl)) (oN)
 intro β wx1 E
 replace FR:=hid (FR.out.fnw E rfl)
 obtain ⟨b3,hb3⟩:∃ b,b=β 1:=⟨_,rfl⟩
 have eb3:=E.atNew mms rfl
 simp only at eb3
 rw [←hb3] at eb3
 have lB0_b3:B0<b3:=by have h1:=eb3.1;have h2:=AB0.out.lt;omega
 have lbs_b3:bs<b3:=by have h1:=eb3.1;have h2:=ABS.out.lt;omega
 have hZb3:B0≤b3:=by have h1:=eb3.1;have h2:=FR0.out;omega
 replace AB0:=hid (AB0.out.fnw E rfl)
 replace ABS:=hid (ABS.out.fnw E rfl)
 have Ab3:=hid eb3.2
 simp only [nP,zr,zq]
 rw [←hb3]
 replace FR0:=hid FR.out.le
 clear E eb3 hb3
 go_wp2
 go_loopg [9] n (fun m iv wr=>∃ (k:Nat) (t:Bool) (q:Nat),k≤n∧n - k≤m∧iv=.int .i64 (k:Int)∧(t,q)=prodL (l.take k)∧At wr b3 0 (.bool t::lv 32 q)∧At wr B0 0 cy∧At wr bs 0 (cellsI l)∧Fr B0 w wr)
 case atStart=>exact ⟨0,false,1,by omega,by omega,rfl,rfl,by have:=Ab3.out;rwa [V_c1.out] at this,AB0.out,ABS.out,FR.out⟩
 case round =>
  obtain ⟨k,t,q,hk,hm,rfl,hq,h3,h0,hs,hf⟩:=hrel
  obtain ⟨cp,V_cp⟩:∃ c:List Value,Hid (c=.bool t::lv 32 q):=⟨_,hid rfl⟩
  replace Ab3:=hid (show At wr b3 0 cp by rw [V_cp.out];exact h3)
  replace AB0:=hid h0
  replace ABS:=hid hs
  replace FR:=hid hf
  replace FR0:=hid FR.out.le
  have HQ:=hid hq
  clear h3 h0 hs hf hq
  by_cases hlt:k<n
  ·obtain ⟨x,hx⟩:∃ x,l[k]?=some x:=⟨l[k]'(by rw [←HN.out];exact hlt),by simp [←HN.out,hlt]⟩
   have HX:=hid hx
   obtain ⟨xa,xb,hxe,hxl⟩:=cellsI_mid l k x hx
   obtain ⟨xs,hxs⟩:∃ s,s=x.1:=⟨_,rfl⟩
   obtain ⟨xv,hxv⟩:∃ s,s=x.2:=⟨_,rfl⟩
   obtain ⟨r,hr⟩:∃ r,r=mulF (t,q) (xs,xv):=⟨_,rfl⟩
   obtain ⟨rs,hrs⟩:∃ s,s=r.1:=⟨_,rfl⟩
   obtain ⟨rv,hrv⟩:∃ s,s=r.2:=⟨_,rfl⟩
   obtain ⟨cx,V_cx⟩:∃ c:List Value,Hid (c=.bool xs::lv 32 xv):=⟨_,hid rfl⟩
   obtain ⟨cr,V_cr⟩:∃ c:List Value,Hid (c=.bool rs::lv 32 rv):=⟨_,hid rfl⟩
   have ABX:=hid (show At wr bs (k*33) cx by
    have:=ABS.out
    rw [hxe] at this
    rw [V_cx.out,hxs,hxv]
    exact At.sub this (by rw [hxl];omega))
   have HR:=hid (show (rs,rv)=prodL (l.take (k+1)) by rw [prodL_snoc hx,←HQ.out,hrs,hrv,hr,hxs,hxv])
   have HMU:=hid (fun W=>pmul_op V_cp.out V_cx.out V_cr.out (show rv=q*xv by rw [hrv,hr];rfl) (show rs=cs1 (t != xs) rv by rw [hrs,hrv,hr];rfl) (by have:=HL.out k;rw [←HQ.out] at this;exact this) (by rw [hxv];exact HB.out x (List.mem_of_getElem? hx)) (by have:=HL.out (k+1);rw [←HR.out] at this;exact this) W)
   clear hx hxe hxl hxs hxv hr hrs hrv
   go_upto_region 4 with fail
   refine wfn [⟨true,2,5,3,0,0,25,12,cx,0,cx,[]⟩] [(11,.pointer (some ⟨bs,(k*33),none⟩)),(12,.agg cx.toArray)] _ (by simp only [zz4,zz5,zq];rfl) (by kernel_rfl) (by kernel_rfl) rfl ?_ ?_ ?_ ?_
   ·intro W' hW'
    have rd0:=ABX.out.below hW'
    refine fxo ?_ ?_;(go_big_quiet_step (fail);(try simp only [zq]);exact wqn rfl)
    refine fxo (wlg (by rfl) rfl rfl rd0 Tryz.underlying25 rfl (qI V_cx.out) (wqn (by simp only [zq]))) ?_
    iterate 2 (refine fxs (by rfl) ?_)
    exact fxn
   ·exact oP _ _ (Tryz.alI (qI V_cx.out)) (oN)
   ·exact oP _ _ (stw rfl (qI V_cx.out) (oneI V_cx.out) (fun _=>rfl)) (oN)
   intro β wx2 E
   replace FR:=hid (FR.out.fnw E rfl)
   obtain ⟨b5,hb5⟩:∃ b,b=β 2:=⟨_,rfl⟩
   have eb5:=E.atNew mms rfl
   simp only at eb5
   rw [←hb5] at eb5
   have lB0_b5:B0<b5:=by have h1:=eb5.1;have h2:=AB0.out.lt;omega
   have lbs_b5:bs<b5:=by have h1:=eb5.1;have h2:=ABS.out.lt;omega
   have lb3_b5:b3<b5:=by have h1:=eb5.1;have h2:=Ab3.out.lt;omega
   have hZb5:B0≤b5:=by have h1:=eb5.1;have h2:=FR0.out;omega
   replace AB0:=hid (AB0.out.fnw E rfl)
   replace ABS:=hid (ABS.out.fnw E rfl)
   replace Ab3:=hid (Ab3.out.fnw E rfl)
   replace ABX:=hid (ABX.out.fnw E rfl)
   have Ab5:=hid eb5.2
   simp only [nP,zr,zq]
   rw [←hb5]
   replace FR0:=hid FR.out.le
   clear E eb5 hb5
   go_upto_region 5 with fail
   refine qwf [⟨false,0,3,6,b3,0,25,17,cr,0,cr,[]⟩] [(14,.agg cp.toArray),(15,.agg cx.toArray),(16,.tuple #[.agg cr.toArray,.int .i64 0]),(13,.tuple #[.agg cr.toArray,.int .i64 0]),(17,.agg cr.toArray),(18,.int .i64 0)] _ (by simp only [zz4,zz5,zq];rfl) (by kernel_rfl) (by kernel_rfl) ?_ ?_ ?_ ?_ ?_ ?_ ?_
   ·intro W' hW'
    have rd0:=Ab3.out.below hW'
    have rd1:=Ab5.out.below hW'
    refine fxo (wlg (by rfl) rfl rfl rd0 Tryz.underlying25 rfl (qI V_cp.out) (wqn (by simp only [zq]))) ?_
    refine fxo (wlg (by rfl) rfl rfl rd1 Tryz.underlying25 rfl (qI V_cx.out) (wqn (by simp only [zq]))) ?_
    refine fxo ?_ ?_;(go_big_quiet_step ((go_at_call 72;exact Calls.below_of (HMU.out _)));(try simp only [zq]);exact wqn rfl)
    iterate 3 (refine fxo ?_ ?_;(go_big_quiet_step (fail);(try simp only [zq]);exact wqn rfl))
    refine fxs (by rfl) ?_
    exact fxn
   ·intro W' hK'
    have rd1:=At.keep hK' Ab5.out (oP _ _ (fun _=>(by show b3≠b5;omega)) (oN))
    refine fxs (by kernel_rfl) ?_
    refine fxo (wlg (by rfl) rfl rfl rd1 Tryz.underlying25 rfl (qI V_cx.out) (wqn (by simp only [zq]))) ?_
    refine fxs (by kernel_rfl) ?_
    iterate 3 (first|(refine fxo ?_ ?_;(go_big_quiet_step (fail);(try simp only [zq]);exact wqn rfl))|(refine fxs (by kernel_rfl) ?_))
    refine fxs (by kernel_rfl) ?_
    exact fxn
   ·exact oP _ _ (fun h=>Bool.noConfusion h) (oN)
   ·exact oP _ _ (fun _=>⟨Ab3.out.lt,rfl,At.room Ab3.out (qI V_cp.out) (qI V_cr.out)⟩) (oN)
   ·exact uno
   ·exact oP _ _ (stw rfl (qI V_cr.out) (oneI V_cr.out) (fun _=>rfl)) (oN)
   intro β wx3 E
   replace FR:=hid (FR.out.flow E (oP _ _ (fun _=>(by show B0≤b3;omega)) (oN)))
   replace AB0:=hid (At.flow E AB0.out (oP _ _ (fun _=>(by show b3≠B0;omega)) (oN)))
   replace ABS:=hid (At.flow E ABS.out (oP _ _ (fun _=>(by show b3≠bs;omega)) (oN)))
   replace Ab3:=hid (show At wx3 b3 0 cr from E.atOld mms rfl Ab3.out.lt)
   replace ABX:=hid (At.flow E ABX.out (oP _ _ (fun _=>(by show b3≠bs;omega)) (oN)))
   replace Ab5:=hid (At.flow E Ab5.out (oP _ _ (fun _=>(by show b3≠b5;omega)) (oN)))
   simp only [nP,zr,zq]
   replace FR0:=hid FR.out.le
   clear E
   go_wp2_with fail
   go_roundg (gk - 1)
   case measure=>omega
   case rel=>exact ⟨k+1,rs,rv,by omega,by omega,by go_num,HR.out,by have:=Ab3.out;rwa [V_cr.out] at this,AB0.out,ABS.out,FR.out⟩
  ·have HE:=hid (show cp=c by
    have h:=HQ.out
    rw [List.take_of_length_le (by rw [←HN.out];omega),←HP.out] at h
    injection h with h1 h2
    rw [V_cp.out,V_c.out,h1,h2])
   go_upto_region 7 with fail
   refine qwf [⟨false,0,2,1,B0,0,25,20,cp,0,cp,[]⟩] [(20,.agg cp.toArray)] _ (by simp only [zz4,zz5,zq];rfl) (by kernel_rfl) (by kernel_rfl) ?_ ?_ ?_ ?_ ?_ ?_ ?_
   ·intro W' hW'
    have rd0:=Ab3.out.below hW'
    refine fxo (wlg (by rfl) rfl rfl rd0 Tryz.underlying25 rfl (qI V_cp.out) (wqn (by simp only [zq]))) ?_
    refine fxs (by rfl) ?_
    exact fxn
   ·intro W' hK'
    have rd0:=At.keep hK' Ab3.out (oP _ _ (fun _=>(by show B0≠b3;omega)) (oN))
    refine fxo (wlg (by rfl) rfl rfl rd0 Tryz.underlying25 rfl (qI V_cp.out) (wqn (by simp only [zq]))) ?_
    refine fxs (by kernel_rfl) ?_
    exact fxn
   ·exact oP _ _ (fun h=>Bool.noConfusion h) (oN)
   ·exact oP _ _ (fun _=>⟨AB0.out.lt,rfl,At.room AB0.out (qI V_cy.out) (qI V_cp.out)⟩) (oN)
   ·exact uno
   ·exact oP _ _ (stw rfl (qI V_cp.out) (oneI V_cp.out) (fun _=>rfl)) (oN)
   intro β wx2 E
   replace FR:=hid (FR.out.flow E (oP _ _ (fun _=>(by show B0≤B0;omega)) (oN)))
   replace AB0:=hid (show At wx2 B0 0 cp from E.atOld mms rfl AB0.out.lt)
   replace ABS:=hid (At.flow E ABS.out (oP _ _ (fun _=>(by show B0≠bs;omega)) (oN)))
   replace Ab3:=hid (At.flow E Ab3.out (oP _ _ (fun _=>(by show B0≠b3;omega)) (oN)))
   simp only [nP,zr,zq]
   replace FR0:=hid FR.out.le
   clear E
   rw [HE.out] at AB0
   go_wp2_with fail
   have hld:=AB0.out.read (P:=Tryz.prog) Tryz.underlying25 rfl (qI V_c.out)
   refine bodyPost_ret (v:=.agg c.toArray) (by simp [results,Tryz.results40,asAddr,hld]) rfl ?_
   exact ⟨rfl,by rw [HB0.out] at FR;exact FR.out.below⟩
end Go.Proofs.YtmcekgapelanhaaGreat
