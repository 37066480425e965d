import Derived.Test.YtemoddmadfoaiaaGreatGkA
import Derived.Test.YtemoddmadfoaiaaGreatRegE
set_option linter.unusedVariables false
set_option linter.unusedSimpArgs false
set_option maxRecDepth 100000
set_option maxHeartbeats 4000000
namespace Go.Proofs.YtemoddmadfoaiaaGreat
open Go.RowKit Reg
open Lib (hid)
def regV (v:Value):Value:=.agg #[v]
theorem qbC {B:Nat} {w w':World} {a:Addr} {v:Value} (h:w.cell? a=some v) (hb:Below B w w') (ha:a.block<B):w'.cell? a=some v:=by rw [hb.cell ha];exact h
theorem qfI (x:Lot) (b:Bool) (h:rightB x=b) (w:World) :
  CB 83 #[.agg #[.string x.nom,.string x.hol,.int .i64 x.ser,.int .i64 x.units]] (.bool b) w:=by
 rw [←h];exact qvP x w
theorem qdM (x y:Lot) (m:Int) (h:place x y=m) (w:World) :
  CB 84 #[.agg #[.string x.nom,.string x.hol,.int .i64 x.ser,.int .i64 x.units],.agg #[.string y.nom,.string y.hol,.int .i64 y.ser,.int .i64 y.units]] (.int .i64 m) w:=by
 rw [←h];exact qwH x y w
theorem qjS (v:Value) (l:List Lot) (w:World) (h:LotsAt w v l) :
  Calls Tryz.prog 54 #[regV v] w (OutE (checkB l) 250 w):=by
 have hF:=checkB.eq_1 l;unfold regV;obtain ⟨A,cap,hv⟩:=Rd.form h;have hmx:=h.2.1;by_cases hbig:l.length≤256
 ·by_cases h0:l.length=0
  ·obtain ⟨A,cap,rfl⟩:=h.nil h0;have hl0:=List.eq_nil_of_length_eq_zero h0;subst hl0;have HL:=hid h;have HSU:=hid (fun W (h:LotsAt W (.slice A 0 cap) [])=>qgC _ [] W h (fun x hx=>by cases hx) (by simp));have HF:=hid (show checkB []=true by kernel_rfl);clear h hF hv hmx h0 hbig;go_enter Tryz.func54,Tryz.ntmps54
   go_wp2
   go_loopg [12] 1 (fun m i wr=>i=.int .i64 0∧wr=w.alloc (.cells #[.slice A 0 cap] 40))
   case atStart=>exact ⟨rfl,rfl⟩
   case round =>
    obtain ⟨rfl,rfl⟩:=hrel;go_wp2_with (go_at_call 85;refine (HSU.out _ (HL.out.below ((Below.refl _ _).alloc (Nat.le_refl _) _))).mono ?_;rintro e w' ⟨rfl,hb⟩;have HBS:=hid hb;clear hb;dsimp only [sumU])
    go_ret
    refine ⟨qaK (by rw [HF.out];rfl),((Below.refl _ _).alloc (Nat.le_refl _) _).trans (HBS.out.mono (by simp))⟩
  ·obtain ⟨g,off,cap,rfl,hc⟩:=h.some (by omega);have HL:=hid h;obtain ⟨n,hnn⟩:=nqx (l.length);rw [←hnn] at hbig h0 HL ⊢;have HN:=hid hnn;have HC:=hid hc;have HF:=hid hF;clear hnn hc h hF hv hmx;have hbig':¬(256:Int)<n:=by omega
   go_enter Tryz.func54,Tryz.ntmps54
   go_wp2
   go_loopg [12] n (fun m i wr=>∃ (k:Nat),k≤n∧n - k≤m∧i=.int .i64 k∧(∀ j,j<k→okAt l j=true)∧Below (w.heap.size+1) (w.alloc (.cells #[.slice (some ⟨g,off,none⟩) n cap] 40)) wr)
   case atStart=>exact ⟨0,by omega,by omega,rfl,fun j hj=>absurd hj (by omega),Below.refl _ _⟩
   case round =>
    obtain ⟨k,hk,hm,rfl,hok,hbl⟩:=hrel;have HOK:=hid hok;have hsz:w.heap.size+1≤wr.heap.size:=by have:=hbl.size;simpa using this
    have hcv:wr.cell? ⟨w.heap.size,0,none⟩=some (.slice (some ⟨g,off,none⟩) n cap):=qbC (by go_cell) hbl (by simp);have HBL:=hid hbl;have HB0:=hid (show Below w.heap.size w wr from ((Below.refl _ _).alloc (Nat.le_refl _) _).trans (hbl.mono (by omega)));clear hok hbl;by_cases hlt:k<n
    ·obtain ⟨x,hx⟩:∃ x,l[k]?=some x:=⟨l[k]'(by rw [←HN.out];exact hlt),by simp [←HN.out,hlt]⟩;obtain ⟨c0,c1,c2,c3⟩:=(HC.out k x hx).below HB0.out;have HX:=hid hx;clear hx;go_upto_region 6 with fail
     obtain ⟨W1,hW1⟩:=nqx (wr.alloc (.cells #[.string x.nom,.string x.hol,.int .i64 x.ser,.int .i64 x.units] 56));have hbW:Below wr.heap.size wr W1:=by rw [hW1];exact (Below.refl _ _).alloc (Nat.le_refl _) _
     have x0:W1.cell? ⟨wr.heap.size,0,none⟩=some (.string x.nom):=by rw [hW1];go_cell
     have x1:W1.cell? ⟨wr.heap.size,1,none⟩=some (.string x.hol):=by rw [hW1];go_cell
     have x2:W1.cell? ⟨wr.heap.size,2,none⟩=some (.int .i64 x.ser):=by rw [hW1];go_cell
     have x3:W1.cell? ⟨wr.heap.size,3,none⟩=some (.int .i64 x.units):=by rw [hW1];go_cell
     have y0:=qaB x0;have y1:=qaB x1;have y2:=qaB x2;have y3:=qaB x3;have yv:=qaB (qcU hcv hbW);rw [←hW1];have HBW:=hid (HB0.out.trans (hbW.mono HB0.out.size));have HBL1:=hid (HBL.out.trans (hbW.mono hsz));have HSZ1:=hid (show w.heap.size+1≤W1.heap.size from Nat.le_trans hsz hbW.size);have HCW:=hid (fun k x hx=>(HC.out k x hx).below HBW.out);clear hW1 hbW x0 x1 x2 x3 c0 c1 c2 c3 hcv
     cases hr:rightB x with
     | false =>
      have HR:=hid hr;clear hr;refine qaE (by kernel_rfl) (by kernel_rfl) ?_
      repeat (go_big_quiet_step (first|(go_at_call 83;exact qaA (qfI x false HR.out _))))
      refine wpQuiet_nil ?_;intro w' hw';obtain ⟨p,rfl⟩:=hw';go_wp2
      go_ret
      have hno:okAt l k=false:=by simp only [okAt,HX.out,HR.out];rfl
      refine ⟨qaK ?_,HBW.out.trans ((qbG _ _ _).mono HBW.out.size)⟩;rw [HF.out,okL_no (by rw [←HN.out];exact hlt) hno];simp
     | true =>
      have HR:=hid hr;clear hr;by_cases hk0:k=0
      ·subst hk0;refine qaE (by kernel_rfl) (by kernel_rfl) ?_
       repeat (go_big_quiet_step (first|(go_at_call 83;exact qaA (qfI x true HR.out _))))
       refine wpQuiet_nil ?_;intro w' hw';obtain ⟨p,rfl⟩:=hw';go_wp2
       go_roundg (gk - 1)
       case measure=>omega
       case rel=>exact ⟨1,by omega,by omega,by go_num,fun j hj=>by
        obtain rfl:j=0:=by omega
        rw [qjI HX.out,HR.out],HBL1.out.trans ((qbG _ _ _).mono HSZ1.out)⟩
      ·obtain ⟨j,hj⟩:∃ j,k=j+1:=⟨k - 1,by omega⟩;obtain ⟨y,hy⟩:∃ y,l[j]?=some y:=⟨l[j]'(by rw [←HN.out];omega),by simp [←HN.out,show j<n by omega]⟩;obtain ⟨d0,d1,d2,d3⟩:=HCW.out j y hy;have z0:=qaB d0;have z1:=qaB d1;have z2:=qaB d2;have z3:=qaB d3;clear d0 d1 d2 d3;have hkj:(k:Int) - 1=(j:Int):=by omega
       have hwj:IntKind.i64.wrap (j:Int)=(j:Int):=IntWalk.i64_in _ (by omega);have hjn:j<n:=by omega
       have hkp:0<k:=by omega
       have hok2:okAt l k=lotLt y x:=by rw [hj,qgU (by rw [←hj];exact HX.out) hy,HR.out];rfl
       have HK2:=hid hok2;clear hok2 hy hj hk0
       cases hlt2:lotLt y x with
       | true =>
        have HPL:=hid (qeM hlt2);have HLT:=hid hlt2;clear hlt2;refine qaE (by kernel_rfl) (by kernel_rfl) ?_
        repeat (go_big_quiet_step (first|(go_at_call 83;exact qaA (qfI x true HR.out _))|(go_at_call 84;exact qaA (qdM y x (-1) HPL.out _))))
        refine wpQuiet_nil ?_;intro w' hw';obtain ⟨p,rfl⟩:=hw';go_wp2
        go_roundg (gk - 1)
        case measure=>omega
        case rel=>exact ⟨k+1,by omega,by omega,by go_num,fun i hi=>by
         by_cases hik:i=k
         ·rw [hik,HK2.out,HLT.out]
         ·exact HOK.out i (by omega),HBL1.out.trans ((qbG _ _ _).mono HSZ1.out)⟩
       | false =>
        obtain ⟨m,hm1,hm2⟩:∃ m,place y x=m∧0≤m:=⟨_,rfl,by have:=qgO y x;rw [hlt2] at this;simp at this;omega⟩;have HPL:=hid hm1;have HLT:=hid hlt2;clear hlt2 hm1;refine qaE (by kernel_rfl) (by kernel_rfl) ?_
        repeat (go_big_quiet_step (first|(go_at_call 83;exact qaA (qfI x true HR.out _))|(go_at_call 84;exact qaA (qdM y x m HPL.out _))))
        refine wpQuiet_nil ?_;intro w' hw';obtain ⟨p,rfl⟩:=hw';go_wp2
        go_ret
        refine ⟨qaK ?_,HBW.out.trans ((qbG _ _ _).mono HBW.out.size)⟩;rw [HF.out,okL_no (by rw [←HN.out];exact hlt) (by rw [HK2.out,HLT.out])];simp
    ·have hoky:okL l=true:=okL_yes (n:=k) (by have:=HN.out;omega) HOK.out;have HSU:=hid (fun W (h:LotsAt W (.slice (some ⟨g,off,none⟩) n cap) l)=>qgC _ l W h (fun x hx=>by have:=qiJ (qgT hoky x hx);omega) (by rw [←HN.out];omega));have HF2:=hid (show checkB l=decide (sumU l≤1000000000000000) by rw [HF.out,hoky];simp;intro _;rw [←HN.out];exact hbig);clear hoky;obtain ⟨S,hS⟩:=nqx (sumU l);rw [←hS] at HSU HF2;clear hS;by_cases hsb:S≤1000000000000000
     ·go_wp2_with (go_at_call 85;refine (HSU.out _ (HL.out.below HB0.out)).mono ?_;rintro e w' ⟨rfl,hb⟩;have HBS:=hid hb;clear hb)
      go_ret
      refine ⟨qaK ?_,HB0.out.trans (HBS.out.mono HB0.out.size)⟩;rw [HF2.out,decide_eq_true hsb];rfl
     ·have hsb':(1000000000000000:Int)<S:=by omega
      go_wp2_with (go_at_call 85;refine (HSU.out _ (HL.out.below HB0.out)).mono ?_;rintro e w' ⟨rfl,hb⟩;have HBS:=hid hb;clear hb)
      go_ret
      refine ⟨qaK ?_,HB0.out.trans (HBS.out.mono HB0.out.size)⟩;rw [HF2.out,decide_eq_false (by omega)];rfl
 ·have hbig':(256:Int)<l.length:=by omega
  have HF:=hid (show checkB l=false by rw [hF,decide_eq_false hbig];rfl);subst hv;clear hF;go_enter Tryz.func54,Tryz.ntmps54
  go_wp2
  go_ret
  exact ⟨qaK (by rw [HF.out];rfl),(Below.refl _ _).alloc (Nat.le_refl _) _⟩
end Go.Proofs.YtemoddmadfoaiaaGreat
namespace Go.Proofs.YtemoddmadfoaiaaGreat
open Go.RowKit Reg
namespace Reg
theorem qsU (l:List Lot) (k:Nat):sumU (l.take k)+sumU (l.drop k)=sumU l:=by rw [←jaD,List.take_append_drop]
theorem qoB {x:Lot} (h:acctB x.nom x.hol=true) (h1:0≤x.ser) (h2:x.ser≤73048) (h3:1≤x.units) (h4:x.units≤1000000000000000):rightB x=true:=by
 simp [rightB,h,h1,h2,h3,h4]
end Reg
end Go.Proofs.YtemoddmadfoaiaaGreat
