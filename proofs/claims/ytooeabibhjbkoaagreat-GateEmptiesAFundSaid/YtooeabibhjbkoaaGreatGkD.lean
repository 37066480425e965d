import Derived.Test.YtooeabibhjbkoaaGreatGeF
import Derived.Test.YtooeabibhjbkoaaGreatCpA
import Derived.Test.YtooeabibhjbkoaaGreatGkB
set_option linter.unusedVariables false
set_option linter.unusedSimpArgs false
set_option maxRecDepth 100000
namespace Go.Proofs.YtooeabibhjbkoaaGreat
open Go.RowKit Big Reg Al Ap Ga
def cI (l:List Int):List Value:=l.map (Value.int .i64)
theorem Row.at {w:World} {O:Nat} {l:List Int} (h:Row w O 0 l) (hlt:O<w.heap.size):At w O 0 (cI l):=by
 refine ⟨fun j v hj=>?_,fun j hj=>?_,hlt⟩
 ·unfold cI at hj
  rw [List.getElem?_map] at hj
  cases hx:l[j]? with
  | none=>rw [hx] at hj;cases hj
  | some x=>rw [hx] at hj;injection hj with hj;subst hj;exact h.1 j x hx
 ·unfold cI at hj
  rw [List.length_map] at hj
  rw [h.1 j _ (List.getElem?_eq_getElem hj)]
  exact ⟨rfl,h.2 _⟩
theorem At.set1 {w:World} {O k:Nat} {cs:List Value} {v:Value} (h:At w O 0 cs) (hk:k<cs.length):At (w.setCell ⟨O,k,none⟩ v) O 0 (cs.set k v):=by
 have hc:∀ j u,(cs.set k v)[j]?=some u→(w.setCell ⟨O,k,none⟩ v).cell? ⟨O,0+j,none⟩=some u:=by
  intro j u hj
  rw [Nat.zero_add]
  by_cases e:j=k
  ·subst e
   rw [List.getElem?_set_self hk] at hj
   injection hj with hj
   subst hj
   have:=h.range j _ (List.getElem?_eq_getElem hk)
   rw [Nat.zero_add] at this
   exact World.cell?_setCell_same _ _ _ this
  ·rw [List.getElem?_set_ne (fun e2=>e e2.symm)] at hj
   rw [World.cell?_setCell_other _ _ _ _ (fun e2=>by injection e2 with e3 e4;omega)]
   have:=h.range j u hj
   rwa [Nat.zero_add] at this
 refine ⟨hc,fun j hj=>?_,by simpa [World.setCell] using h.lt⟩
 rw [hc j _ (List.getElem?_eq_getElem hj)]
 refine ⟨rfl,?_⟩
 rw [World.frozen?_setCell]
 rw [List.length_set] at hj
 exact (h.there j hj).2
theorem At.fz {w:World} {O k:Nat} {cs:List Value} (h:At w O 0 cs) (hk:k<cs.length):w.frozen? ⟨O,k,none⟩=false:=by
 have:=(h.there k hk).2
 rwa [Nat.zero_add] at this
theorem cI_set (l:List Int) (k:Nat) (x:Int):(cI l).set k (.int .i64 x)=cI (l.set k x):=by unfold cI;rw [List.map_set]
theorem cI_len (l:List Int):(cI l).length=l.length:=List.length_map ..
theorem At.rd {w:World} {O n cap:Nat} {l:List Int} (h:At w O 0 (cI l)) (hl:l.length=n) (hn:n≤1000000):Rd w 1 (.slice (some ⟨O,0,none⟩) n cap) n (cI l) :=
 ⟨by rw [cI_len];omega,by omega,_,cap,rfl,fun _=>⟨O,0,rfl,fun j u hu=>h.range j u hu⟩⟩
end Go.Proofs.YtooeabibhjbkoaaGreat
set_option maxHeartbeats 8000000
namespace Go.Proofs.YtooeabibhjbkoaaGreat
open Go.RowKit Big Reg Al Ap Ga
open Lib (hid)
theorem ocheckA (o:Od) (c:Int) (hc:c=if okA o=true then 0 else 230) (w:World):Calls Tryz.prog 50 #[.agg #[.string o.key,.string o.nom,.string o.hol,.string o.fund,.string o.cls,.int .i64 o.kind,.int .i64 o.amount,.int .i64 o.units,.int .i64 o.at_,.int .i64 o.known,.bool o.void]] w fun e w'=>e=.returned (.int .i64 c)∧Below w.heap.size w w':=by
 cases hv:o.void with
 | false=>have:=ocheck_any o c (by rw [hc];unfold okA;rw [hv];rfl) w hv;rwa [hv] at this
 | true=>have:=vocheck_any o c (by rw [hc];unfold okA;rw [hv];rfl) w hv;rwa [hv] at this
theorem Tryz.infoT:(Tryz.prog.info? 65).map (fun i=>(i.zero,i.size,i.bytes))=some (some (.agg #[.string ⟨#[]⟩,.string ⟨#[]⟩,.string ⟨#[]⟩,.string ⟨#[]⟩,.string ⟨#[]⟩,.int .i64 0,.int .i64 0,.int .i64 0,.int .i64 0,.int .i64 0,.bool false,.int .i64 0,.int .i64 0]),13,144):=by kernel_rfl
theorem okC_of_okA (x:Tk) (a b:Int) (h:okA x.o=false):okC x a b=false:=by
 unfold okC
 cases hv:x.o.void with
 | true=>rfl
 | false =>
  unfold okA at h
  rw [hv] at h
  rw [show okO x.o=false from h]
  rfl
def CarryP (l:List Tk) (ws ss:List Int) (next:Int) (w:World) (e:Ending) (w':World):Prop:=Below w.heap.size w w' ∧
 ((∃ code,carryE l ws ss next=some code∧e=.returned (.tuple #[.slice none 0 0,.int .i64 code]))∨(carryE l ws ss next=none∧∃ v,e=.returned (.tuple #[v,.int .i64 0])∧TksAt w' v (carryL next l ws ss)))
theorem carry_any (l:List Tk) (ws ss:List Int) (next:Int) (vl vw vs:Value) (w:World) (hl:TksAt w vl l) (hw:Rd w 1 vw ws.length (cI ws)) (hs:Rd w 1 vs ss.length (cI ss)) :
  Calls Tryz.prog 24 #[vl,vw,vs,.int .i64 next] w (CarryP l ws ss next w):=by
 have hE:=carryE.eq_1 l ws ss next
 obtain ⟨_,hl2,Al,cl,rfl,hl3⟩:=hl
 obtain ⟨_,hw2,Aw,cw,rfl,hw3⟩:=hw
 obtain ⟨_,hs2,As,cs,rfl,hs3⟩:=hs
 obtain ⟨n,hn⟩:∃ n,n=l.length:=⟨_,rfl⟩
 obtain ⟨nw,hnw⟩:∃ n,n=ws.length:=⟨_,rfl⟩
 obtain ⟨ns,hns⟩:∃ n,n=ss.length:=⟨_,rfl⟩
 rw [←hn,←hnw,←hns] at hE
 rw [←hn] at hl2 hl3 ⊢
 rw [←hnw] at hw2 hw3 ⊢
 rw [←hns] at hs2 hs3 ⊢
 have HN:=hid hn
 have HNW:=hid hnw
 have HNS:=hid hns
 have HL:=hid hl3
 have HW:=hid hw3
 have HS:=hid hs3
 clear hn hnw hns hl3 hw3 hs3
 by_cases hlen:64<n∨nw≠n∨ns≠n
 ·have HC:=hid (show carryE l ws ss next=some 270 by rw [hE,if_pos hlen])
  clear hE
  go_enter Tryz.func24,Tryz.ntmps24
  by_cases p1:64<n
  ·have q1:(64:Int)<(n:Int):=by omega
   clear hlen p1
   go_wp2
   go_ret2
   exact ⟨Below.refl _ _,.inl ⟨_,HC.out,rfl⟩⟩
  ·have q1:¬(64:Int)<(n:Int):=by omega
   by_cases p2:nw=n
   ·subst p2
    have q3:((ns:Int)==(nw:Int))=false:=beq_eq_false_iff_ne.2 (by omega)
    clear hlen p1
    go_wp2
    go_ret2
    exact ⟨Below.refl _ _,.inl ⟨_,HC.out,rfl⟩⟩
   ·have q3:((nw:Int)==(n:Int))=false:=beq_eq_false_iff_ne.2 (by omega)
    clear hlen p1 p2
    go_wp2
    go_ret2
    exact ⟨Below.refl _ _,.inl ⟨_,HC.out,rfl⟩⟩
 have hn64:n≤64:=by omega
 obtain rfl:nw=n:=by omega
 obtain rfl:ns=nw:=by omega
 rw [if_neg hlen] at hE
 have HE:=hid hE
 have q1:¬(64:Int)<(ns:Int):=by omega
 clear hlen hE
 obtain ⟨B,hB⟩:∃ B,B=w.heap.size:=⟨_,rfl⟩
 have HB:=hid hB
 clear hB
 go_enter Tryz.func24,Tryz.ntmps24
 go_wp2
 go_loopg [10,11,12,32] ns (fun m va _ _ kv wr=>∃ (k:Nat),kv=.int .i64 k∧k≤ns∧ns≤m+k∧(∀ j x a b,j<k→l[j]?=some x→ws[j]?=some a→ss[j]?=some b→okC x a b=true)∧wr.ownsRow B 65 13 va (carryL next (l.take k) (ws.take k) (ss.take k)).length (cellsT (carryL next (l.take k) (ws.take k) (ss.take k)))∧Below w.heap.size w wr)
 case atStart=>exact ⟨0,rfl,by omega,by omega,fun j x a b hj=>absurd hj (by omega),by rw [show carryL next (l.take 0) (ws.take 0) (ss.take 0)=[] by simp [carryL]];exact World.ownsRow_nil _ _ _ _,Below.refl _ _⟩
 case round =>
  obtain ⟨k,rfl,hk,hm,hok,hown,hbl⟩:=hrel
  have HOK:=hid hok
  have HO:=hid hown
  have HBL:=hid hbl
  clear hok hown
  by_cases hlt:k<ns
  ·obtain ⟨g,off,rfl,hc⟩:=HL.out (by omega)
   obtain ⟨g2,off2,rfl,hc2⟩:=HW.out (by omega)
   obtain ⟨g3,off3,rfl,hc3⟩:=HS.out (by omega)
   obtain ⟨x,hx⟩:∃ x,l[k]?=some x:=⟨l[k]'(by rw [←HN.out];exact hlt),by simp [←HN.out,hlt]⟩
   obtain ⟨a,ha⟩:∃ a,ws[k]?=some a:=⟨ws[k]'(by rw [←HNW.out];exact hlt),by simp [←HNW.out,hlt]⟩
   obtain ⟨b,hb⟩:∃ b,ss[k]?=some b:=⟨ss[k]'(by rw [←HNS.out];exact hlt),by simp [←HNS.out,hlt]⟩
   have cc:=fun j u (hu:x.cells[j]?=some u)=>(show wr.cell? ⟨g,off+k*13+j,none⟩=some u by rw [Nat.add_assoc];exact qcU (hc _ _ (cellsT_get l k x hx j u hu)) hbl)
   have c0:wr.cell? ⟨g,off+k*13,none⟩=some (.string x.o.key):=cc 0 _ rfl
   have c1:wr.cell? ⟨g,off+k*13+1,none⟩=some (.string x.o.nom):=cc 1 _ rfl
   have c2:wr.cell? ⟨g,off+k*13+2,none⟩=some (.string x.o.hol):=cc 2 _ rfl
   have c3:wr.cell? ⟨g,off+k*13+3,none⟩=some (.string x.o.fund):=cc 3 _ rfl
   have c4:wr.cell? ⟨g,off+k*13+4,none⟩=some (.string x.o.cls):=cc 4 _ rfl
   have c5:wr.cell? ⟨g,off+k*13+5,none⟩=some (.int .i64 x.o.kind):=cc 5 _ rfl
   have c6:wr.cell? ⟨g,off+k*13+6,none⟩=some (.int .i64 x.o.amount):=cc 6 _ rfl
   have c7:wr.cell? ⟨g,off+k*13+7,none⟩=some (.int .i64 x.o.units):=cc 7 _ rfl
   have c8:wr.cell? ⟨g,off+k*13+8,none⟩=some (.int .i64 x.o.at_):=cc 8 _ rfl
   have c9:wr.cell? ⟨g,off+k*13+9,none⟩=some (.int .i64 x.o.known):=cc 9 _ rfl
   have c10:wr.cell? ⟨g,off+k*13+10,none⟩=some (.bool x.o.void):=cc 10 _ rfl
   have c11:wr.cell? ⟨g,off+k*13+11,none⟩=some (.int .i64 x.day):=cc 11 _ rfl
   have c12:wr.cell? ⟨g,off+k*13+12,none⟩=some (.int .i64 x.first):=cc 12 _ rfl
   have ca:wr.cell? ⟨g2,off2+k,none⟩=some (.int .i64 a):=qcU (hc2 k _ (by unfold cI;rw [List.getElem?_map,ha];rfl)) hbl
   have cb:wr.cell? ⟨g3,off3+k,none⟩=some (.int .i64 b):=qcU (hc3 k _ (by unfold cI;rw [List.getElem?_map,hb];rfl)) hbl
   have HX:=hid hx
   have HXA:=hid ha
   have HXB:=hid hb
   have hsz:=hbl.size
   clear cc hc hc2 hc3 hx ha hb hbl
   go_upto_region 7 with fail
   obtain ⟨X,hX⟩:∃ X,X=wr.heap.size:=⟨_,rfl⟩
   obtain ⟨W1,hW1⟩:∃ W1,W1=wr.alloc (.cells #[.string x.o.key,.string x.o.nom,.string x.o.hol,.string x.o.fund,.string x.o.cls,.int .i64 x.o.kind,.int .i64 x.o.amount,.int .i64 x.o.units,.int .i64 x.o.at_,.int .i64 x.o.known,.bool x.o.void,.int .i64 x.day,.int .i64 x.first] 65):=⟨_,rfl⟩
   rw [←hW1,←hX]
   have hbW:Below wr.heap.size wr W1:=by rw [hW1];exact (Below.refl _ _).alloc (Nat.le_refl _) _
   have AX:=hid (show At W1 X 0 x.cells by rw [hW1];exact At.fresh _ x.cells _ hX)
   have HO1:=hid (ownsRow_below HO.out hbW)
   have HBW:=hid (HBL.out.trans (hbW.mono HBL.out.size))
   have n2:g2≠X:=by have:=World.block_lt_of_cell? _ _ ca;rw [hX];exact Nat.ne_of_lt this
   have n3:g3≠X:=by have:=World.block_lt_of_cell? _ _ cb;rw [hX];exact Nat.ne_of_lt this
   have n2':X≠g2:=Ne.symm n2
   have n3':X≠g3:=Ne.symm n3
   have HLT:=hid (fun q hq=>(HO.out.lt q hq).2)
   rw [←hX] at HLT
   replace ca:=qcU ca hbW
   replace cb:=qcU cb hbW
   have hXB:B≤X:=by rw [hX];have:=HB.out;omega
   have hXr:X=wr.heap.size:=hX
   have HXR:=hid hXr
   clear hW1 hX hbW hXr c0 c1 c2 c3 c4 c5 c6 c7 c8 c9 c10 c11 c12
   have AXO:=hid (show At W1 X 0 ([.string x.o.key,.string x.o.nom,.string x.o.hol,.string x.o.fund,.string x.o.cls,.int .i64 x.o.kind,.int .i64 x.o.amount,.int .i64 x.o.units,.int .i64 x.o.at_,.int .i64 x.o.known,.bool x.o.void]:List Value) from At.head (ys:=[.string x.o.key,.string x.o.nom,.string x.o.hol,.string x.o.fund,.string x.o.cls,.int .i64 x.o.kind,.int .i64 x.o.amount,.int .i64 x.o.units,.int .i64 x.o.at_,.int .i64 x.o.known,.bool x.o.void]) (zs:=[.int .i64 x.day,.int .i64 x.first]) AX.out)
   have SCO:=hid (show (Tryz.prog.info? 63).map (·.size)=some ([.string x.o.key,.string x.o.nom,.string x.o.hol,.string x.o.fund,.string x.o.cls,.int .i64 x.o.kind,.int .i64 x.o.amount,.int .i64 x.o.units,.int .i64 x.o.at_,.int .i64 x.o.known,.bool x.o.void]:List Value).length by kernel_rfl)
   have y10:W1.cell? ⟨X,10,none⟩=some (.bool x.o.void):=by have:=AX.out.cell (j:=10) rfl;simpa using this
   have y12:W1.cell? ⟨X,12,none⟩=some (.int .i64 x.first):=by have:=AX.out.cell (j:=12) rfl;simpa using this
   have FR:=hid (show Fr X W1 W1 from ⟨Below.refl _ _,by have:=AX.out.lt;omega⟩)
   have FR0:=hid FR.out.le
   have hkI:(k:Int)<ns:=by omega
   obtain ⟨c,hc⟩:∃ c:Int,c=if okA x.o=true then 0 else 230:=⟨_,rfl⟩
   have HCH:=hid (ocheckA x.o c hc)
   have HNO:=hid (fun (h:okC x a b=false)=>(show carryE l ws ss next=some 270 by
    rw [HE.out,if_pos]
    cases hh:okCs l ws ss with
    | false=>rfl
    | true=>have:=okCs_at HX.out HXA.out HXB.out hh;rw [h] at this;cases this))
   cases ho:okA x.o with
   | false =>
    rw [ho] at hc
    replace hc:c=230:=hc
    subst hc
    have HKO:=hid ho
    clear ho
    refine wfn [] [(37,.pointer (some ⟨X,0,none⟩)),(38,.agg #[.string x.o.key,.string x.o.nom,.string x.o.hol,.string x.o.fund,.string x.o.cls,.int .i64 x.o.kind,.int .i64 x.o.amount,.int .i64 x.o.units,.int .i64 x.o.at_,.int .i64 x.o.known,.bool x.o.void]),(39,.int .i64 230),(40,.bool true),(41,.bool true),(42,undef),(43,undef),(44,undef),(45,.bool true),(46,.bool true),(47,undef),(48,undef),(49,undef),(50,undef),(51,undef),(52,.bool true),(53,.bool true),(54,undef),(55,undef),(56,undef),(57,undef),(58,undef),(59,.bool true),(60,.bool true),(61,undef),(62,undef),(63,undef),(64,undef),(65,undef),(66,.bool true),(67,.bool true),(68,undef),(69,undef),(70,undef),(71,undef),(72,undef),(73,undef),(74,undef),(75,undef),(76,undef),(77,.bool true)] _ (by simp only [zz4,zz5,zq];rfl) (by kernel_rfl) (by kernel_rfl) rfl ?_ ?_ ?_ ?_
    ·intro W' hW'
     have ro:=AXO.out.below hW'
     refine fxo ?_ ?_;(go_big_quiet_step (fail);(try simp only [zq]);exact wqn rfl)
     refine fxo (wlg (by rfl) rfl rfl ro Tryz.underlying63 rfl SCO.out (wqn (by simp only [zq]))) ?_
     refine fxo ?_ ?_;(go_big_quiet_step ((go_at_call 50;exact Calls.below_of (HCH.out _)));(try simp only [zq]);exact wqn rfl)
     iterate 38 (refine fxo ?_ ?_;(go_big_quiet_step (fail);(try simp only [zq]);exact wqn rfl))
     exact fxn
    ·exact oN
    ·exact oN
    intro β wx1 E
    replace FR:=hid (FR.out.fnw E rfl)
    have hE:=E.below rfl
    simp only [nP,zr,zq]
    replace FR0:=hid FR.out.le
    clear E
    have HC:=hid (HNO.out (okC_of_okA x a b HKO.out))
    go_wp2
    go_ret2
    exact ⟨HBW.out.trans (FR.out.below.mono (by have:=HXR.out;have:=HB.out;omega)),.inl ⟨_,HC.out,rfl⟩⟩
   | true =>
    rw [ho] at hc
    replace hc:c=0:=hc
    subst hc
    have HKO:=hid ho
    clear ho
    cases hv:x.o.void with
    | true =>
     rw [hv] at y10
     have HV:=hid hv
     clear hv
     refine wfn [] [(37,.pointer (some ⟨X,0,none⟩)),(38,.agg #[.string x.o.key,.string x.o.nom,.string x.o.hol,.string x.o.fund,.string x.o.cls,.int .i64 x.o.kind,.int .i64 x.o.amount,.int .i64 x.o.units,.int .i64 x.o.at_,.int .i64 x.o.known,.bool x.o.void]),(39,.int .i64 0),(40,.bool false),(41,.bool false),(42,.pointer (some ⟨X,0,none⟩)),(43,.pointer (some ⟨X,10,none⟩)),(44,.bool true),(45,.bool true),(46,.bool true),(47,undef),(48,undef),(49,undef),(50,undef),(51,undef),(52,.bool true),(53,.bool true),(54,undef),(55,undef),(56,undef),(57,undef),(58,undef),(59,.bool true),(60,.bool true),(61,undef),(62,undef),(63,undef),(64,undef),(65,undef),(66,.bool true),(67,.bool true),(68,undef),(69,undef),(70,undef),(71,undef),(72,undef),(73,undef),(74,undef),(75,undef),(76,undef),(77,.bool true)] _ (by simp only [zz4,zz5,zq];rfl) (by kernel_rfl) (by kernel_rfl) rfl ?_ ?_ ?_ ?_
     ·intro W' hW'
      have ro:=AXO.out.below hW'
      have z10:=qcU y10 hW'
      refine fxo ?_ ?_;(go_big_quiet_step (fail);(try simp only [zq]);exact wqn rfl)
      refine fxo (wlg (by rfl) rfl rfl ro Tryz.underlying63 rfl SCO.out (wqn (by simp only [zq]))) ?_
      refine fxo ?_ ?_;(go_big_quiet_step ((go_at_call 50;exact Calls.below_of (HCH.out _)));(try simp only [zq]);exact wqn rfl)
      iterate 4 (refine fxo ?_ ?_;(go_big_quiet_step (fail);(try simp only [zq]);exact wqn rfl))
      refine fxo (wcg (by rfl) rfl rfl (fun W h=>by simp [loadVar,h,go_sem]) z10 (wqn (by simp only [zq]))) ?_
      iterate 33 (refine fxo ?_ ?_;(go_big_quiet_step (fail);(try simp only [zq]);exact wqn rfl))
      exact fxn
     ·exact oN
     ·exact oN
     intro β wx1 E
     replace FR:=hid (FR.out.fnw E rfl)
     have hE:=E.below rfl
     simp only [nP,zr,zq]
     replace FR0:=hid FR.out.le
     clear E
     have HC:=hid (HNO.out (by unfold okC;rw [HV.out];rfl))
     go_wp2
     go_ret2
     exact ⟨HBW.out.trans (FR.out.below.mono (by have:=HXR.out;have:=HB.out;omega)),.inl ⟨_,HC.out,rfl⟩⟩
    | false =>
     rw [hv] at y10
     have HV:=hid hv
     clear hv
     by_cases a1:a<1
     ·refine wfn [] [(37,.pointer (some ⟨X,0,none⟩)),(38,.agg #[.string x.o.key,.string x.o.nom,.string x.o.hol,.string x.o.fund,.string x.o.cls,.int .i64 x.o.kind,.int .i64 x.o.amount,.int .i64 x.o.units,.int .i64 x.o.at_,.int .i64 x.o.known,.bool x.o.void]),(39,.int .i64 0),(40,.bool false),(41,.bool false),(42,.pointer (some ⟨X,0,none⟩)),(43,.pointer (some ⟨X,10,none⟩)),(44,.bool false),(45,.bool false),(46,.bool false),(47,.slice (some ⟨g2,off2,none⟩) ns cw),(48,.int .i64 (k:Int)),(49,.pointer (some ⟨g2,off2+k,none⟩)),(50,.int .i64 a),(51,.bool true),(52,.bool true),(53,.bool true),(54,undef),(55,undef),(56,undef),(57,undef),(58,undef),(59,.bool true),(60,.bool true),(61,undef),(62,undef),(63,undef),(64,undef),(65,undef),(66,.bool true),(67,.bool true),(68,undef),(69,undef),(70,undef),(71,undef),(72,undef),(73,undef),(74,undef),(75,undef),(76,undef),(77,.bool true)] _ (by simp only [zz4,zz5,zq];rfl) (by kernel_rfl) (by kernel_rfl) rfl ?_ ?_ ?_ ?_
      ·intro W' hW'
       have ro:=AXO.out.below hW'
       have z10:=qcU y10 hW'
       have za:=qcU ca hW'
       refine fxo ?_ ?_;(go_big_quiet_step (fail);(try simp only [zq]);exact wqn rfl)
       refine fxo (wlg (by rfl) rfl rfl ro Tryz.underlying63 rfl SCO.out (wqn (by simp only [zq]))) ?_
       refine fxo ?_ ?_;(go_big_quiet_step ((go_at_call 50;exact Calls.below_of (HCH.out _)));(try simp only [zq]);exact wqn rfl)
       iterate 4 (refine fxo ?_ ?_;(go_big_quiet_step (fail);(try simp only [zq]);exact wqn rfl))
       refine fxo (wcg (by rfl) rfl rfl (fun W h=>by simp [loadVar,h,go_sem]) z10 (wqn (by simp only [zq]))) ?_
       iterate 5 (refine fxo ?_ ?_;(go_big_quiet_step (fail);(try simp only [zq]);exact wqn rfl))
       refine fxo (wcg (by rfl) rfl rfl (fun W h=>by simp [loadVar,h,go_sem]) za (wqn (by simp only [zq]))) ?_
       iterate 27 (refine fxo ?_ ?_;(go_big_quiet_step (fail);(try simp only [zq]);exact wqn rfl))
       exact fxn
      ·exact oN
      ·exact oN
      intro β wx1 E
      replace FR:=hid (FR.out.fnw E rfl)
      have hE:=E.below rfl
      simp only [nP,zr,zq]
      replace FR0:=hid FR.out.le
      clear E
      have HC:=hid (HNO.out (by unfold okC inR;simp;intros;omega))
      go_wp2
      go_ret2
      exact ⟨HBW.out.trans (FR.out.below.mono (by have:=HXR.out;have:=HB.out;omega)),.inl ⟨_,HC.out,rfl⟩⟩
     by_cases a2:1000000000000000<a
     ·refine wfn [] [(37,.pointer (some ⟨X,0,none⟩)),(38,.agg #[.string x.o.key,.string x.o.nom,.string x.o.hol,.string x.o.fund,.string x.o.cls,.int .i64 x.o.kind,.int .i64 x.o.amount,.int .i64 x.o.units,.int .i64 x.o.at_,.int .i64 x.o.known,.bool x.o.void]),(39,.int .i64 0),(40,.bool false),(41,.bool false),(42,.pointer (some ⟨X,0,none⟩)),(43,.pointer (some ⟨X,10,none⟩)),(44,.bool false),(45,.bool false),(46,.bool false),(47,.slice (some ⟨g2,off2,none⟩) ns cw),(48,.int .i64 (k:Int)),(49,.pointer (some ⟨g2,off2+k,none⟩)),(50,.int .i64 a),(51,.bool false),(52,.bool false),(53,.bool false),(54,.slice (some ⟨g2,off2,none⟩) ns cw),(55,.int .i64 (k:Int)),(56,.pointer (some ⟨g2,off2+k,none⟩)),(57,.int .i64 a),(58,.bool true),(59,.bool true),(60,.bool true),(61,undef),(62,undef),(63,undef),(64,undef),(65,undef),(66,.bool true),(67,.bool true),(68,undef),(69,undef),(70,undef),(71,undef),(72,undef),(73,undef),(74,undef),(75,undef),(76,undef),(77,.bool true)] _ (by simp only [zz4,zz5,zq];rfl) (by kernel_rfl) (by kernel_rfl) rfl ?_ ?_ ?_ ?_
      ·intro W' hW'
       have ro:=AXO.out.below hW'
       have z10:=qcU y10 hW'
       have za:=qcU ca hW'
       refine fxo ?_ ?_;(go_big_quiet_step (fail);(try simp only [zq]);exact wqn rfl)
       refine fxo (wlg (by rfl) rfl rfl ro Tryz.underlying63 rfl SCO.out (wqn (by simp only [zq]))) ?_
       refine fxo ?_ ?_;(go_big_quiet_step ((go_at_call 50;exact Calls.below_of (HCH.out _)));(try simp only [zq]);exact wqn rfl)
       iterate 4 (refine fxo ?_ ?_;(go_big_quiet_step (fail);(try simp only [zq]);exact wqn rfl))
       refine fxo (wcg (by rfl) rfl rfl (fun W h=>by simp [loadVar,h,go_sem]) z10 (wqn (by simp only [zq]))) ?_
       iterate 5 (refine fxo ?_ ?_;(go_big_quiet_step (fail);(try simp only [zq]);exact wqn rfl))
       refine fxo (wcg (by rfl) rfl rfl (fun W h=>by simp [loadVar,h,go_sem]) za (wqn (by simp only [zq]))) ?_
       iterate 6 (refine fxo ?_ ?_;(go_big_quiet_step (fail);(try simp only [zq]);exact wqn rfl))
       refine fxo (wcg (by rfl) rfl rfl (fun W h=>by simp [loadVar,h,go_sem]) za (wqn (by simp only [zq]))) ?_
       iterate 20 (refine fxo ?_ ?_;(go_big_quiet_step (fail);(try simp only [zq]);exact wqn rfl))
       exact fxn
      ·exact oN
      ·exact oN
      intro β wx1 E
      replace FR:=hid (FR.out.fnw E rfl)
      have hE:=E.below rfl
      simp only [nP,zr,zq]
      replace FR0:=hid FR.out.le
      clear E
      have HC:=hid (HNO.out (by unfold okC inR;simp;intros;omega))
      go_wp2
      go_ret2
      exact ⟨HBW.out.trans (FR.out.below.mono (by have:=HXR.out;have:=HB.out;omega)),.inl ⟨_,HC.out,rfl⟩⟩
     by_cases b1:b<0
     ·refine wfn [] [(37,.pointer (some ⟨X,0,none⟩)),(38,.agg #[.string x.o.key,.string x.o.nom,.string x.o.hol,.string x.o.fund,.string x.o.cls,.int .i64 x.o.kind,.int .i64 x.o.amount,.int .i64 x.o.units,.int .i64 x.o.at_,.int .i64 x.o.known,.bool x.o.void]),(39,.int .i64 0),(40,.bool false),(41,.bool false),(42,.pointer (some ⟨X,0,none⟩)),(43,.pointer (some ⟨X,10,none⟩)),(44,.bool false),(45,.bool false),(46,.bool false),(47,.slice (some ⟨g2,off2,none⟩) ns cw),(48,.int .i64 (k:Int)),(49,.pointer (some ⟨g2,off2+k,none⟩)),(50,.int .i64 a),(51,.bool false),(52,.bool false),(53,.bool false),(54,.slice (some ⟨g2,off2,none⟩) ns cw),(55,.int .i64 (k:Int)),(56,.pointer (some ⟨g2,off2+k,none⟩)),(57,.int .i64 a),(58,.bool false),(59,.bool false),(60,.bool false),(61,.slice (some ⟨g3,off3,none⟩) ns cs),(62,.int .i64 (k:Int)),(63,.pointer (some ⟨g3,off3+k,none⟩)),(64,.int .i64 b),(65,.bool true),(66,.bool true),(67,.bool true),(68,undef),(69,undef),(70,undef),(71,undef),(72,undef),(73,undef),(74,undef),(75,undef),(76,undef),(77,.bool true)] _ (by simp only [zz4,zz5,zq];rfl) (by kernel_rfl) (by kernel_rfl) rfl ?_ ?_ ?_ ?_
      ·intro W' hW'
       have ro:=AXO.out.below hW'
       have z10:=qcU y10 hW'
       have za:=qcU ca hW'
       have zb:=qcU cb hW'
       refine fxo ?_ ?_;(go_big_quiet_step (fail);(try simp only [zq]);exact wqn rfl)
       refine fxo (wlg (by rfl) rfl rfl ro Tryz.underlying63 rfl SCO.out (wqn (by simp only [zq]))) ?_
       refine fxo ?_ ?_;(go_big_quiet_step ((go_at_call 50;exact Calls.below_of (HCH.out _)));(try simp only [zq]);exact wqn rfl)
       iterate 4 (refine fxo ?_ ?_;(go_big_quiet_step (fail);(try simp only [zq]);exact wqn rfl))
       refine fxo (wcg (by rfl) rfl rfl (fun W h=>by simp [loadVar,h,go_sem]) z10 (wqn (by simp only [zq]))) ?_
       iterate 5 (refine fxo ?_ ?_;(go_big_quiet_step (fail);(try simp only [zq]);exact wqn rfl))
       refine fxo (wcg (by rfl) rfl rfl (fun W h=>by simp [loadVar,h,go_sem]) za (wqn (by simp only [zq]))) ?_
       iterate 6 (refine fxo ?_ ?_;(go_big_quiet_step (fail);(try simp only [zq]);exact wqn rfl))
       refine fxo (wcg (by rfl) rfl rfl (fun W h=>by simp [loadVar,h,go_sem]) za (wqn (by simp only [zq]))) ?_
       iterate 6 (refine fxo ?_ ?_;(go_big_quiet_step (fail);(try simp only [zq]);exact wqn rfl))
       refine fxo (wcg (by rfl) rfl rfl (fun W h=>by simp [loadVar,h,go_sem]) zb (wqn (by simp only [zq]))) ?_
       iterate 13 (refine fxo ?_ ?_;(go_big_quiet_step (fail);(try simp only [zq]);exact wqn rfl))
       exact fxn
      ·exact oN
      ·exact oN
      intro β wx1 E
      replace FR:=hid (FR.out.fnw E rfl)
      have hE:=E.below rfl
      simp only [nP,zr,zq]
      replace FR0:=hid FR.out.le
      clear E
      have HC:=hid (HNO.out (by unfold okC inR;simp;intros;omega))
      go_wp2
      go_ret2
      exact ⟨HBW.out.trans (FR.out.below.mono (by have:=HXR.out;have:=HB.out;omega)),.inl ⟨_,HC.out,rfl⟩⟩
     by_cases b2:a<b
     ·refine wfn [] [(37,.pointer (some ⟨X,0,none⟩)),(38,.agg #[.string x.o.key,.string x.o.nom,.string x.o.hol,.string x.o.fund,.string x.o.cls,.int .i64 x.o.kind,.int .i64 x.o.amount,.int .i64 x.o.units,.int .i64 x.o.at_,.int .i64 x.o.known,.bool x.o.void]),(39,.int .i64 0),(40,.bool false),(41,.bool false),(42,.pointer (some ⟨X,0,none⟩)),(43,.pointer (some ⟨X,10,none⟩)),(44,.bool false),(45,.bool false),(46,.bool false),(47,.slice (some ⟨g2,off2,none⟩) ns cw),(48,.int .i64 (k:Int)),(49,.pointer (some ⟨g2,off2+k,none⟩)),(50,.int .i64 a),(51,.bool false),(52,.bool false),(53,.bool false),(54,.slice (some ⟨g2,off2,none⟩) ns cw),(55,.int .i64 (k:Int)),(56,.pointer (some ⟨g2,off2+k,none⟩)),(57,.int .i64 a),(58,.bool false),(59,.bool false),(60,.bool false),(61,.slice (some ⟨g3,off3,none⟩) ns cs),(62,.int .i64 (k:Int)),(63,.pointer (some ⟨g3,off3+k,none⟩)),(64,.int .i64 b),(65,.bool false),(66,.bool false),(67,.bool false),(68,.slice (some ⟨g3,off3,none⟩) ns cs),(69,.int .i64 (k:Int)),(70,.pointer (some ⟨g3,off3+k,none⟩)),(71,.int .i64 b),(72,.slice (some ⟨g2,off2,none⟩) ns cw),(73,.int .i64 (k:Int)),(74,.pointer (some ⟨g2,off2+k,none⟩)),(75,.int .i64 a),(76,.bool true),(77,.bool true)] _ (by simp only [zz4,zz5,zq];rfl) (by kernel_rfl) (by kernel_rfl) rfl ?_ ?_ ?_ ?_
      ·intro W' hW'
       have ro:=AXO.out.below hW'
       have z10:=qcU y10 hW'
       have za:=qcU ca hW'
       have zb:=qcU cb hW'
       refine fxo ?_ ?_;(go_big_quiet_step (fail);(try simp only [zq]);exact wqn rfl)
       refine fxo (wlg (by rfl) rfl rfl ro Tryz.underlying63 rfl SCO.out (wqn (by simp only [zq]))) ?_
       refine fxo ?_ ?_;(go_big_quiet_step ((go_at_call 50;exact Calls.below_of (HCH.out _)));(try simp only [zq]);exact wqn rfl)
       iterate 4 (refine fxo ?_ ?_;(go_big_quiet_step (fail);(try simp only [zq]);exact wqn rfl))
       refine fxo (wcg (by rfl) rfl rfl (fun W h=>by simp [loadVar,h,go_sem]) z10 (wqn (by simp only [zq]))) ?_
       iterate 5 (refine fxo ?_ ?_;(go_big_quiet_step (fail);(try simp only [zq]);exact wqn rfl))
       refine fxo (wcg (by rfl) rfl rfl (fun W h=>by simp [loadVar,h,go_sem]) za (wqn (by simp only [zq]))) ?_
       iterate 6 (refine fxo ?_ ?_;(go_big_quiet_step (fail);(try simp only [zq]);exact wqn rfl))
       refine fxo (wcg (by rfl) rfl rfl (fun W h=>by simp [loadVar,h,go_sem]) za (wqn (by simp only [zq]))) ?_
       iterate 6 (refine fxo ?_ ?_;(go_big_quiet_step (fail);(try simp only [zq]);exact wqn rfl))
       refine fxo (wcg (by rfl) rfl rfl (fun W h=>by simp [loadVar,h,go_sem]) zb (wqn (by simp only [zq]))) ?_
       iterate 6 (refine fxo ?_ ?_;(go_big_quiet_step (fail);(try simp only [zq]);exact wqn rfl))
       refine fxo (wcg (by rfl) rfl rfl (fun W h=>by simp [loadVar,h,go_sem]) zb (wqn (by simp only [zq]))) ?_
       iterate 3 (refine fxo ?_ ?_;(go_big_quiet_step (fail);(try simp only [zq]);exact wqn rfl))
       refine fxo (wcg (by rfl) rfl rfl (fun W h=>by simp [loadVar,h,go_sem]) za (wqn (by simp only [zq]))) ?_
       iterate 2 (refine fxo ?_ ?_;(go_big_quiet_step (fail);(try simp only [zq]);exact wqn rfl))
       exact fxn
      ·exact oN
      ·exact oN
      intro β wx1 E
      replace FR:=hid (FR.out.fnw E rfl)
      have hE:=E.below rfl
      simp only [nP,zr,zq]
      replace FR0:=hid FR.out.le
      clear E
      have HC:=hid (HNO.out (by unfold okC inR;simp;intros;omega))
      go_wp2
      go_ret2
      exact ⟨HBW.out.trans (FR.out.below.mono (by have:=HXR.out;have:=HB.out;omega)),.inl ⟨_,HC.out,rfl⟩⟩
     have HYES:=hid (show okC x a b=true by have h:=HKO.out;unfold okA at h;rw [HV.out] at h;unfold okC;rw [HV.out,show okO x.o=true from h];simp [inR];omega)
     refine wfn [] [(37,.pointer (some ⟨X,0,none⟩)),(38,.agg #[.string x.o.key,.string x.o.nom,.string x.o.hol,.string x.o.fund,.string x.o.cls,.int .i64 x.o.kind,.int .i64 x.o.amount,.int .i64 x.o.units,.int .i64 x.o.at_,.int .i64 x.o.known,.bool x.o.void]),(39,.int .i64 0),(40,.bool false),(41,.bool false),(42,.pointer (some ⟨X,0,none⟩)),(43,.pointer (some ⟨X,10,none⟩)),(44,.bool false),(45,.bool false),(46,.bool false),(47,.slice (some ⟨g2,off2,none⟩) ns cw),(48,.int .i64 (k:Int)),(49,.pointer (some ⟨g2,off2+k,none⟩)),(50,.int .i64 a),(51,.bool false),(52,.bool false),(53,.bool false),(54,.slice (some ⟨g2,off2,none⟩) ns cw),(55,.int .i64 (k:Int)),(56,.pointer (some ⟨g2,off2+k,none⟩)),(57,.int .i64 a),(58,.bool false),(59,.bool false),(60,.bool false),(61,.slice (some ⟨g3,off3,none⟩) ns cs),(62,.int .i64 (k:Int)),(63,.pointer (some ⟨g3,off3+k,none⟩)),(64,.int .i64 b),(65,.bool false),(66,.bool false),(67,.bool false),(68,.slice (some ⟨g3,off3,none⟩) ns cs),(69,.int .i64 (k:Int)),(70,.pointer (some ⟨g3,off3+k,none⟩)),(71,.int .i64 b),(72,.slice (some ⟨g2,off2,none⟩) ns cw),(73,.int .i64 (k:Int)),(74,.pointer (some ⟨g2,off2+k,none⟩)),(75,.int .i64 a),(76,.bool false),(77,.bool false)] _ (by simp only [zz4,zz5,zq];rfl) (by kernel_rfl) (by kernel_rfl) rfl ?_ ?_ ?_ ?_
     ·intro W' hW'
      have ro:=AXO.out.below hW'
      have z10:=qcU y10 hW'
      have za:=qcU ca hW'
      have zb:=qcU cb hW'
      refine fxo ?_ ?_;(go_big_quiet_step (fail);(try simp only [zq]);exact wqn rfl)
      refine fxo (wlg (by rfl) rfl rfl ro Tryz.underlying63 rfl SCO.out (wqn (by simp only [zq]))) ?_
      refine fxo ?_ ?_;(go_big_quiet_step ((go_at_call 50;exact Calls.below_of (HCH.out _)));(try simp only [zq]);exact wqn rfl)
      iterate 4 (refine fxo ?_ ?_;(go_big_quiet_step (fail);(try simp only [zq]);exact wqn rfl))
      refine fxo (wcg (by rfl) rfl rfl (fun W h=>by simp [loadVar,h,go_sem]) z10 (wqn (by simp only [zq]))) ?_
      iterate 5 (refine fxo ?_ ?_;(go_big_quiet_step (fail);(try simp only [zq]);exact wqn rfl))
      refine fxo (wcg (by rfl) rfl rfl (fun W h=>by simp [loadVar,h,go_sem]) za (wqn (by simp only [zq]))) ?_
      iterate 6 (refine fxo ?_ ?_;(go_big_quiet_step (fail);(try simp only [zq]);exact wqn rfl))
      refine fxo (wcg (by rfl) rfl rfl (fun W h=>by simp [loadVar,h,go_sem]) za (wqn (by simp only [zq]))) ?_
      iterate 6 (refine fxo ?_ ?_;(go_big_quiet_step (fail);(try simp only [zq]);exact wqn rfl))
      refine fxo (wcg (by rfl) rfl rfl (fun W h=>by simp [loadVar,h,go_sem]) zb (wqn (by simp only [zq]))) ?_
      iterate 6 (refine fxo ?_ ?_;(go_big_quiet_step (fail);(try simp only [zq]);exact wqn rfl))
      refine fxo (wcg (by rfl) rfl rfl (fun W h=>by simp [loadVar,h,go_sem]) zb (wqn (by simp only [zq]))) ?_
      iterate 3 (refine fxo ?_ ?_;(go_big_quiet_step (fail);(try simp only [zq]);exact wqn rfl))
      refine fxo (wcg (by rfl) rfl rfl (fun W h=>by simp [loadVar,h,go_sem]) za (wqn (by simp only [zq]))) ?_
      iterate 2 (refine fxo ?_ ?_;(go_big_quiet_step (fail);(try simp only [zq]);exact wqn rfl))
      exact fxn
     ·exact oN
     ·exact oN
     intro β wx1 E
     replace FR:=hid (FR.out.fnw E rfl)
     have hE:=E.below rfl
     simp only [nP,zr,zq]
     replace FR0:=hid FR.out.le
     clear E
     have ca:=qcU ca (show Below W1.heap.size W1 wx1 from hE)
     have cb:=qcU cb (show Below W1.heap.size W1 wx1 from hE)
     have y12:=qcU y12 (show Below W1.heap.size W1 wx1 from hE)
     replace AX:=hid (AX.out.below hE)
     have HO2:=hid (ownsRow_below HO1.out hE)
     have HB2:=hid (HBW.out.trans (hE.mono HBW.out.size))
     clear hE y10 AXO
     obtain ⟨W2,hW2⟩:∃ W2,W2=wx1:=⟨_,rfl⟩
     rw [←hW2] at ca cb y12 AX HO2 HB2 ⊢
     clear hW2 FR FR0
     have FR:=hid (show Fr X W2 W2 from ⟨Below.refl _ _,by have:=AX.out.lt;omega⟩)
     have FR0:=hid FR.out.le
     go_upto_region 9 with fail
     by_cases hba:b<a
     ·refine wfn [] [(78,.slice (some ⟨g3,off3,none⟩) ns cs),(79,.int .i64 (k:Int)),(80,.pointer (some ⟨g3,off3+k,none⟩)),(81,.int .i64 b),(82,.slice (some ⟨g2,off2,none⟩) ns cw),(83,.int .i64 (k:Int)),(84,.pointer (some ⟨g2,off2+k,none⟩)),(85,.int .i64 a),(86,.bool true)] _ (by simp only [zz4,zz5,zq];rfl) (by kernel_rfl) (by kernel_rfl) rfl ?_ ?_ ?_ ?_
      ·intro W' hW'
       have za:=qcU ca hW'
       have zb:=qcU cb hW'
       iterate 3 (refine fxo ?_ ?_;(go_big_quiet_step (fail);(try simp only [zq]);exact wqn rfl))
       refine fxo (wcg (by rfl) rfl rfl (fun W h=>by simp [loadVar,h,go_sem]) zb (wqn (by simp only [zq]))) ?_
       iterate 3 (refine fxo ?_ ?_;(go_big_quiet_step (fail);(try simp only [zq]);exact wqn rfl))
       refine fxo (wcg (by rfl) rfl rfl (fun W h=>by simp [loadVar,h,go_sem]) za (wqn (by simp only [zq]))) ?_
       refine fxo ?_ ?_;(go_big_quiet_step (fail);(try simp only [zq]);exact wqn rfl)
       exact fxn
      ·exact oN
      ·exact oN
      intro β wx1 E
      replace FR:=hid (FR.out.fnw E rfl)
      have hE:=E.below rfl
      simp only [nP,zr,zq]
      replace FR0:=hid FR.out.le
      clear E
      have ca:=qcU ca hE
      have cb:=qcU cb hE
      replace AX:=hid (AX.out.below hE)
      have HO3:=hid (ownsRow_below HO2.out hE)
      have HB3:=hid (HB2.out.trans (hE.mono HB2.out.size))
      clear hE y12
      obtain ⟨W3,hW3⟩:∃ W3,W3=wx1:=⟨_,rfl⟩
      rw [←hW3] at ca cb AX HO3 HB3 ⊢
      clear hW3 FR FR0
      have wab:IntKind.i64.wrap (a - b)=a - b:=IntWalk.i64_in _ (by omega)
      have f5:=AX.out.cell (j:=5) rfl
      have f6:=AX.out.cell (j:=6) rfl
      have f7:=AX.out.cell (j:=7) rfl
      simp only [Nat.zero_add] at f5 f6 f7
      have zz:∀ j,j<13→W3.frozen? ⟨X,j,none⟩=false:=fun j hj=>AX.out.fz (k:=j) hj
      have z5:=zz 5 (by decide)
      have z6:=zz 6 (by decide)
      have z7:=zz 7 (by decide)
      clear zz
      go_upto_region 10 with fail
      have HA7:=hid (show At (((W3.setCell ⟨X,5,none⟩ (.int .i64 3)).setCell ⟨X,6,none⟩ (.int .i64 0)).setCell ⟨X,7,none⟩ (.int .i64 (a - b))) X 0 ([.string x.o.key,.string x.o.nom,.string x.o.hol,.string x.o.fund,.string x.o.cls,.int .i64 3,.int .i64 0,.int .i64 (a - b),.int .i64 x.o.at_,.int .i64 x.o.known,.bool x.o.void,.int .i64 x.day,.int .i64 x.first]:List Value) from ((AX.out.set1 (by show 5<13;decide)).set1 (by show 6<13;decide)).set1 (by show 7<13;decide))
      have HG7:=hid (show W3.grownBy (((W3.setCell ⟨X,5,none⟩ (.int .i64 3)).setCell ⟨X,6,none⟩ (.int .i64 0)).setCell ⟨X,7,none⟩ (.int .i64 (a - b))) (some X) from gBt (gBt (grownBy_setCell _ rfl _) (grownBy_setCell _ rfl _)) (grownBy_setCell _ rfl _))
      go_cut [] from 87 to 101 (fun wx=>At wx X 0 ([.string x.o.key,.string x.o.nom,.string x.o.hol,.string x.o.fund,.string x.o.cls,.int .i64 3,.int .i64 0,.int .i64 (a - b),.int .i64 x.o.at_,.int .i64 x.o.known,.bool x.o.void,.int .i64 x.day,.int .i64 x.first]:List Value)∧W3.grownBy wx (some X))
      case first =>
       go_region
       all_goals go_wp2_with fail
       all_goals go_meet
       all_goals exact ⟨HA7.out.below (below_drew (Below.refl _ _)),gBt HG7.out (grownBy_below (below_drew (Below.refl _ _)) _)⟩
      case rest =>
       obtain ⟨hat,hgr⟩:=hcut
       have hXw:X<wc.heap.size:=by have:=hat.lt;omega
       have d3:=AX.out.lt
       have HB4:=hid (show Below w.heap.size w wc from HB3.out.trans (below_grownBy hgr (by have:=HB.out;omega) HB3.out.size))
       have HO4:=hid (HO3.out.kept hgr (.inr (fun e=>by have:=HLT.out X e;omega)))
       have d0':=hat.cell (j:=0) rfl
       have d1':=hat.cell (j:=1) rfl
       have d2':=hat.cell (j:=2) rfl
       have d3':=hat.cell (j:=3) rfl
       have d4':=hat.cell (j:=4) rfl
       have d5':=hat.cell (j:=5) rfl
       have d6':=hat.cell (j:=6) rfl
       have d7':=hat.cell (j:=7) rfl
       have d8':=hat.cell (j:=8) rfl
       have d9':=hat.cell (j:=9) rfl
       have d10':=hat.cell (j:=10) rfl
       have d11':=hat.cell (j:=11) rfl
       have d12':=hat.cell (j:=12) rfl
       simp only [Nat.zero_add] at d0' d1' d2' d3' d4' d5' d6' d7' d8' d9' d10' d11' d12'
       obtain ⟨p,hp⟩:∃ p,p=(carryL next (l.take k) (ws.take k) (ss.take k)).length:=⟨_,rfl⟩
       have hp64:p≤64:=by have:=carry_len next (l.take k) (ws.take k) (ss.take k);rw [List.length_take] at this;omega
       rw [←hp] at HO4
       have hsn:=carry_snoc next HX.out HXA.out HXB.out
       rw [if_pos hba] at hsn
       have HSN:=hid hsn
       have HP:=hid hp
       obtain ⟨T,hT⟩:∃ T,T=x.over (a - b) next:=⟨_,rfl⟩
       have hTc:T.cells=[.string x.o.key,.string x.o.nom,.string x.o.hol,.string x.o.fund,.string x.o.cls,.int .i64 3,.int .i64 0,.int .i64 (a - b),.int .i64 x.o.at_,.int .i64 x.o.known,.bool x.o.void,.int .i64 next,.int .i64 x.first]:=by rw [hT];rfl
       have HT:=hid hT
       have HTC:=hid hTc
       clear hsn hp hat hgr ca cb f5 f6 f7 z5 z6 z7 n2 n3 n2' n3' hT hTc AX HO3 HB3 d3
       obtain ⟨i0,hi,hz0,hz1,hz2⟩:=info_parts Tryz.infoT
       go_wp2_with (first|(refine wpList_buildRow1 rfl (s:=13) T.cells rfl (by rw [HTC.out];simp [Act.eval,Act.put]) (by decide) rfl (by decide) Tryz.underlying52 (by kernel_rfl) (by kernel_rfl) ?_)|(at_builtin;refine wpList_append_own _ rfl _ _ 52 rfl B 65 i0 _ 13 144 Tryz.underlying52 hi hz0 hz1 hz2 rfl (by decide) _ _ _ rfl (World.ownsRow.alloc HO4.out _) ⟨wc.heap.size,0,none⟩ 1 1 T.cells rfl rfl ?_ ?_ ?_ ?_ ?_ ?_;exact cells_new _ _ _;(rw [HTC.out];simp [Value.oneCell']);exact small_maxLen (by omega);omega;(simp;omega);intro v' w6 hown' hgrow _))
       have HW:=hid (show w6.ownsRow B 65 13 v' (carryL next (l.take (k+1)) (ws.take (k+1)) (ss.take (k+1))).length (cellsT (carryL next (l.take (k+1)) (ws.take (k+1)) (ss.take (k+1)))) by
        rw [HSN.out,List.length_append,cellsT_app,←HP.out,←HT.out,show cellsT [T]=T.cells by simp [cellsT]];exact hown')
       have HB6:=hid (show Below w.heap.size w w6 from (HB4.out.alloc (by have:=HB4.out.size;omega) _).grown hgrow (by simp;have:=HB4.out.size;omega) (fun q hq=>by have:=(HO4.out.lt q hq).1;have:=HB.out;omega))
       clear hown' hgrow
       go_roundg (gk - 1)
       case measure=>omega
       case rel=>exact ⟨k+1,by go_num,by omega,by omega,fun j y c d hj h1 h2 h3=>by
        by_cases hjk:j=k
        ·subst hjk
         rw [HX.out] at h1;rw [HXA.out] at h2;rw [HXB.out] at h3
         injection h1 with h1;injection h2 with h2;injection h3 with h3
         rw [←h1,←h2,←h3];exact HYES.out
        ·exact HOK.out j y c d (by omega) h1 h2 h3,HW.out,HB6.out⟩
     ·refine wfn [] [(78,.slice (some ⟨g3,off3,none⟩) ns cs),(79,.int .i64 (k:Int)),(80,.pointer (some ⟨g3,off3+k,none⟩)),(81,.int .i64 b),(82,.slice (some ⟨g2,off2,none⟩) ns cw),(83,.int .i64 (k:Int)),(84,.pointer (some ⟨g2,off2+k,none⟩)),(85,.int .i64 a),(86,.bool false)] _ (by simp only [zz4,zz5,zq];rfl) (by kernel_rfl) (by kernel_rfl) rfl ?_ ?_ ?_ ?_
      ·intro W' hW'
       have za:=qcU ca hW'
       have zb:=qcU cb hW'
       iterate 3 (refine fxo ?_ ?_;(go_big_quiet_step (fail);(try simp only [zq]);exact wqn rfl))
       refine fxo (wcg (by rfl) rfl rfl (fun W h=>by simp [loadVar,h,go_sem]) zb (wqn (by simp only [zq]))) ?_
       iterate 3 (refine fxo ?_ ?_;(go_big_quiet_step (fail);(try simp only [zq]);exact wqn rfl))
       refine fxo (wcg (by rfl) rfl rfl (fun W h=>by simp [loadVar,h,go_sem]) za (wqn (by simp only [zq]))) ?_
       refine fxo ?_ ?_;(go_big_quiet_step (fail);(try simp only [zq]);exact wqn rfl)
       exact fxn
      ·exact oN
      ·exact oN
      intro β wx1 E
      replace FR:=hid (FR.out.fnw E rfl)
      have hE:=E.below rfl
      simp only [nP,zr,zq]
      replace FR0:=hid FR.out.le
      clear E
      have HO3:=hid (ownsRow_below HO2.out hE)
      have HB3:=hid (HB2.out.trans (hE.mono HB2.out.size))
      have hsn:=carry_snoc next HX.out HXA.out HXB.out
      rw [if_neg hba,List.append_nil] at hsn
      have HSN:=hid hsn
      clear hsn hE
      go_wp2
      go_roundg (gk - 1)
      case measure=>omega
      case rel=>exact ⟨k+1,by go_num,by omega,by omega,fun j y c d hj h1 h2 h3=>by
       by_cases hjk:j=k
       ·subst hjk
        rw [HX.out] at h1;rw [HXA.out] at h2;rw [HXB.out] at h3
        injection h1 with h1;injection h2 with h2;injection h3 with h3
        rw [←h1,←h2,←h3];exact HYES.out
       ·exact HOK.out j y c d (by omega) h1 h2 h3,by rw [HSN.out];exact HO3.out,HB3.out⟩
  ·obtain rfl:k=ns:=by omega
   have hoks:okCs l ws ss=true:=okCs_all (by rw [←HNW.out,←HN.out]) (by rw [←HNS.out,←HN.out]) (fun j x a b h1 h2 h3=>HOK.out j x a b (by rw [HN.out];exact (List.getElem?_eq_some_iff.1 h1).1) h1 h2 h3)
   have hE2:=HE.out
   rw [if_neg (by rw [hoks];decide)] at hE2
   have HE2:=hid hE2
   have hrd:=Rd.of_own HO.out
   rw [List.take_of_length_le (by rw [←HN.out];exact Nat.le_refl _),List.take_of_length_le (by rw [←HNW.out];exact Nat.le_refl _),List.take_of_length_le (by rw [←HNS.out];exact Nat.le_refl _)] at hrd
   have HRD:=hid hrd
   clear hE2 hoks hrd HE HOK HO hbl
   by_cases d1:next<0
   ·have HC:=hid (show carryE l ws ss next=some 50 by rw [HE2.out,if_pos (.inl d1)])
    go_wp2
    go_ret2
    exact ⟨HBL.out,.inl ⟨_,HC.out,rfl⟩⟩
   ·by_cases d2:(73048:Int)<next
    ·have HC:=hid (show carryE l ws ss next=some 50 by rw [HE2.out,if_pos (.inr d2)])
     go_wp2
     go_ret2
     exact ⟨HBL.out,.inl ⟨_,HC.out,rfl⟩⟩
    ·have HC:=hid (show carryE l ws ss next=none by rw [HE2.out,if_neg (by omega)])
     go_wp2
     go_ret2
     exact ⟨HBL.out,.inr ⟨HC.out,_,rfl,HRD.out⟩⟩
end Go.Proofs.YtooeabibhjbkoaaGreat
namespace Go.Proofs.YtooeabibhjbkoaaGreat
open Go.RowKit Big Reg Al Ap Ga
end Go.Proofs.YtooeabibhjbkoaaGreat
