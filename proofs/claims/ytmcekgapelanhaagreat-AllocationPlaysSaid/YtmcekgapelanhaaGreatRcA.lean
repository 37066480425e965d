import Derived.Test.YtmcekgapelanhaaGreatAlB
import Derived.Test.YtmcekgapelanhaaGreatAlC
import Derived.Test.YtmcekgapelanhaaGreatNmB
import Derived.Test.YtmcekgapelanhaaGreatAlE
import Derived.Laws.Strings
set_option linter.unusedVariables false
set_option linter.unusedSimpArgs false
set_option maxRecDepth 100000
set_option maxHeartbeats 8000000
namespace Go.Proofs.YtmcekgapelanhaaGreat
open Go.RowKit Big Al Tok Ap
open Lib (hid)
theorem rfar_any (n:Int) (b:Bool) (h:inR n (-1000000000000000) 1000000000000000=!b) (w:World):Calls Tryz.prog 32 #[.int .i64 n] w fun e w'=>e=.returned (.bool b)∧w=w':=by
 cases b with
 | false =>
  obtain ⟨h1,h2⟩:=inR_yes (by simpa using h)
  have p1:¬(1000000000000000:Int)<n:=by omega
  have p2:¬n < -1000000000000000:=by omega
  clear h h1 h2
  go_enter Tryz.func32,Tryz.ntmps32
  go_wp2
  go_ret
  exact ⟨rfl,rfl⟩
 | true =>
  have h1:=inR_no (by simpa using h)
  by_cases p1:(1000000000000000:Int)<n
  ·clear h h1
   go_enter Tryz.func32,Tryz.ntmps32
   go_wp2
   go_ret
   exact ⟨rfl,rfl⟩
  ·have p2:n < -1000000000000000:=by omega
   clear h h1
   go_enter Tryz.func32,Tryz.ntmps32
   go_wp2
   go_ret
   exact ⟨rfl,rfl⟩
theorem rnameC (s:ByteArray) (b:Bool) (h:nameB s=b) (w:World):Calls Tryz.prog 47 #[.string s] w fun e w'=>e=.returned (.bool b)∧Below w.heap.size w w':=by
 rw [←h];exact (rname_any s w).mono (by rintro e w' ⟨h1,rfl⟩;exact ⟨h1,Below.refl _ _⟩)
theorem beqB_false {a b:ByteArray} (h:¬a=b):(a.toList==b.toList)=false:=by
 rw [beq_eq_false_iff_ne]
 intro hq
 rw [ByteArray.toList_eq,ByteArray.toList_eq] at hq
 exact h (by cases a;cases b;exact congrArg ByteArray.mk (Array.toList_inj.1 hq))
theorem any_yes {l:List Bk} {k j:Nat} {x y:Bk} (hj:j<k) (hy:l[j]?=some y) (he:y.name=x.name):((l.take k).any fun c=>decide (c.name=x.name))=true:=by
 rw [List.any_eq_true]
 exact ⟨y,List.mem_of_getElem? (i:=j) (by rw [List.getElem?_take,if_pos hj];exact hy),by simp [he]⟩
theorem any_no {l:List Bk} {k:Nat} {s:ByteArray} (h:∀ j y,j<k→l[j]?=some y→y.name≠s):((l.take k).any fun c=>decide (c.name=s))=false:=by
 rw [List.any_eq_false]
 intro y hy
 obtain ⟨j,hj⟩:=List.mem_iff_getElem?.1 hy
 rw [List.getElem?_take] at hj
 split at hj
 ·rename_i hjk;simpa using h j y hjk hj
 ·cases hj
theorem rcheck_any (v:Value) (l:List Bk) (w:World) (h:BksAt w v l) :
  Calls Tryz.prog 13 #[v] w (OutE (checkB l) 210 w):=by
 have hF:=checkB.eq_1 l
 obtain ⟨A,cap,hv⟩:=Rd.form h
 have hmx:=h.2.1
 cases hlen:inR (l.length:Nat) 1 4 with
 | false =>
  have HF:=hid (show checkB l=false by rw [hF,hlen];rfl)
  have hno:=inR_no hlen
  subst hv
  clear hF hlen h
  by_cases p1:(l.length:Int)<1
  ·clear hno
   go_enter Tryz.func13,Tryz.ntmps13
   go_wp2
   go_ret
   exact ⟨by rw [HF.out];rfl,Below.refl _ _⟩
  ·have p2:(4:Int)<(l.length:Int):=by omega
   clear hno
   go_enter Tryz.func13,Tryz.ntmps13
   go_wp2
   go_ret
   exact ⟨by rw [HF.out];rfl,Below.refl _ _⟩
 | true =>
  have hb:=inR_yes hlen
  obtain ⟨g,off,cap,rfl,hc⟩:=bks_some h (by omega)
  have hglt:=bks_lt hc (by omega)
  obtain ⟨n,hnn⟩:∃ n,n=l.length:=⟨_,rfl⟩
  rw [←hnn] at hb hlen h hmx ⊢
  have HN:=hid hnn
  have HC:=hid hc
  have HF:=hid (show checkB l=okL l by rw [hF,←hnn,hlen];rfl)
  have p1:¬(n:Int)<1:=by omega
  have p2:¬(4:Int)<(n:Int):=by omega
  clear hnn hc h hF hlen
  go_enter Tryz.func13,Tryz.ntmps13
  go_wp2
  go_loopg [3] n (fun m i wr=>∃ (k:Nat),k≤n∧n - k≤m∧i=.int .i64 k∧(∀ j,j<k→okAt l j=true)∧Below w.heap.size w wr)
  case atStart=>exact ⟨0,by omega,by omega,rfl,fun j hj=>absurd hj (by omega),Below.refl _ _⟩
  case round =>
   obtain ⟨k,hk,hm,rfl,hok,hbl⟩:=hrel
   have HOK:=hid hok
   have HB0:=hid hbl
   have hsz:=hbl.size
   clear hok hbl
   by_cases hlt:k<n
   ·obtain ⟨x,hx⟩:∃ x,l[k]?=some x:=⟨l[k]'(by rw [←HN.out];exact hlt),by simp [←HN.out,hlt]⟩
    obtain ⟨c0,c1,c2,c3,c4⟩:=(HC.out k x hx).below HB0.out
    have HX:=hid hx
    clear hx
    go_upto_region 7 with fail
    obtain ⟨W1,hW1⟩:∃ W1,W1=wr.alloc (.cells #[.string x.name,.int .i64 x.net,.int .i64 x.flows,.int .i64 x.own,.int .i64 x.units] 47):=⟨_,rfl⟩
    have hbW:Below wr.heap.size wr W1:=by rw [hW1];exact (Below.refl _ _).alloc (Nat.le_refl _) _
    obtain ⟨X,hX⟩:∃ X,X=wr.heap.size:=⟨_,rfl⟩
    have x0:W1.cell? ⟨X,0,none⟩=some (.string x.name):=by rw [hW1,hX];go_cell
    have x1:W1.cell? ⟨X,1,none⟩=some (.int .i64 x.net):=by rw [hW1,hX];go_cell
    have x2:W1.cell? ⟨X,2,none⟩=some (.int .i64 x.flows):=by rw [hW1,hX];go_cell
    have x3:W1.cell? ⟨X,3,none⟩=some (.int .i64 x.own):=by rw [hW1,hX];go_cell
    have x4:W1.cell? ⟨X,4,none⟩=some (.int .i64 x.units):=by rw [hW1,hX];go_cell
    rw [←hW1,←hX]
    have HBW:=hid (HB0.out.trans (hbW.mono HB0.out.size))
    clear hW1 hbW c0 c1 c2 c3 c4 hX
    have FR:=hid (Fr.start W1)
    have FR0:=hid FR.out.le
    cases h1:nameB x.name with
    | false =>
     have H1:=hid (rnameC x.name false h1)
     have HNO:=hid (show okAt l k=false by simp [okAt,HX.out,okB,h1])
     clear h1
     refine wfn [] [(24,.pointer (some ⟨X,0,none⟩)),(25,.string x.name),(26,.bool false),(27,.bool true),(28,.bool true),(29,undef),(30,undef),(31,undef),(32,.bool true),(33,.bool true),(34,undef),(35,undef),(36,undef),(37,.bool true),(38,.bool true),(39,undef),(40,undef),(41,undef),(42,.bool true),(43,.bool true),(44,undef),(45,undef),(46,undef),(47,undef),(48,undef),(49,undef),(50,.bool true),(51,.bool true),(52,undef),(53,undef),(54,undef),(55,undef),(56,undef),(57,undef),(58,.bool true),(59,.bool true),(60,undef),(61,undef),(62,undef),(63,.bool true),(64,.bool true),(65,undef),(66,undef),(67,undef),(68,.bool true),(69,.bool true),(70,undef),(71,undef),(72,undef),(73,.bool true)] _ (by simp only [zz4,zz5,zq];rfl) (by kernel_rfl) (by kernel_rfl) rfl ?_ ?_ ?_ ?_
     ·intro W' hW'
      have z0:=cU x0 hW'
      refine fxo ?_ ?_;(go_big_quiet_step (fail);(try simp only [zq]);exact wqn rfl)
      refine fxo (wcg (by rfl) rfl rfl (fun W h=>by simp [loadVar,h,go_sem]) z0 (wqn (by simp only [zq]))) ?_
      refine fxo ?_ ?_;(go_big_quiet_step ((go_at_call 47;exact Calls.below_of (H1.out _)));(try simp only [zq]);exact wqn rfl)
      iterate 47 (refine fxo ?_ ?_;(go_big_quiet_step (fail);(try simp only [zq]);exact wqn rfl))
      exact fxn
     ·exact oN
     ·exact oN
     intro β wx1 E
     replace FR:=hid (FR.out.fnw E rfl)
     have hE:=E.below rfl
     simp only [nP,zr,zq]
     replace FR0:=hid FR.out.le
     clear E
     go_wp2
     go_ret
     exact ⟨by rw [HF.out,okL_no (by rw [←HN.out];exact hlt) HNO.out];rfl,HBW.out.trans (FR.out.below.mono HBW.out.size)⟩
    | true =>
     have H1:=hid (rnameC x.name true h1)
     cases h3:inR x.net 0 1000000000000000 with
     | false =>
      have hno:=inR_no h3
      by_cases q1:x.net<0
      ·clear hno
       have HNO:=hid (show okAt l k=false by simp [okAt,HX.out,okB,h1,h3])
       clear h1
       refine wfn [] [(24,.pointer (some ⟨X,0,none⟩)),(25,.string x.name),(26,.bool true),(27,.bool false),(28,.bool false),(29,.pointer (some ⟨X,1,none⟩)),(30,.int .i64 x.net),(31,.bool true),(32,.bool true),(33,.bool true),(34,undef),(35,undef),(36,undef),(37,.bool true),(38,.bool true),(39,undef),(40,undef),(41,undef),(42,.bool true),(43,.bool true),(44,undef),(45,undef),(46,undef),(47,undef),(48,undef),(49,undef),(50,.bool true),(51,.bool true),(52,undef),(53,undef),(54,undef),(55,undef),(56,undef),(57,undef),(58,.bool true),(59,.bool true),(60,undef),(61,undef),(62,undef),(63,.bool true),(64,.bool true),(65,undef),(66,undef),(67,undef),(68,.bool true),(69,.bool true),(70,undef),(71,undef),(72,undef),(73,.bool true)] _ (by simp only [zz4,zz5,zq];rfl) (by kernel_rfl) (by kernel_rfl) rfl ?_ ?_ ?_ ?_
       ·intro W' hW'
        have z0:=cU x0 hW'
        have z1:=cU x1 hW'
        refine fxo ?_ ?_;(go_big_quiet_step (fail);(try simp only [zq]);exact wqn rfl)
        refine fxo (wcg (by rfl) rfl rfl (fun W h=>by simp [loadVar,h,go_sem]) z0 (wqn (by simp only [zq]))) ?_
        refine fxo ?_ ?_;(go_big_quiet_step ((go_at_call 47;exact Calls.below_of (H1.out _)));(try simp only [zq]);exact wqn rfl)
        iterate 3 (refine fxo ?_ ?_;(go_big_quiet_step (fail);(try simp only [zq]);exact wqn rfl))
        refine fxo (wcg (by rfl) rfl rfl (fun W h=>by simp [loadVar,h,go_sem]) z1 (wqn (by simp only [zq]))) ?_
        iterate 43 (refine fxo ?_ ?_;(go_big_quiet_step (fail);(try simp only [zq]);exact wqn rfl))
        exact fxn
       ·exact oN
       ·exact oN
       intro β wx1 E
       replace FR:=hid (FR.out.fnw E rfl)
       have hE:=E.below rfl
       simp only [nP,zr,zq]
       replace FR0:=hid FR.out.le
       clear E
       go_wp2
       go_ret
       exact ⟨by rw [HF.out,okL_no (by rw [←HN.out];exact hlt) HNO.out];rfl,HBW.out.trans (FR.out.below.mono HBW.out.size)⟩
      ·have G1:=hid (rfar_any x.net true (by rw [Bool.not_true,Bool.eq_false_iff];intro hq;have:=inR_yes hq;omega))
       clear hno
       have HNO:=hid (show okAt l k=false by simp [okAt,HX.out,okB,h1,h3])
       clear h1
       refine wfn [] [(24,.pointer (some ⟨X,0,none⟩)),(25,.string x.name),(26,.bool true),(27,.bool false),(28,.bool false),(29,.pointer (some ⟨X,1,none⟩)),(30,.int .i64 x.net),(31,.bool false),(32,.bool false),(33,.bool false),(34,.pointer (some ⟨X,1,none⟩)),(35,.int .i64 x.net),(36,.bool true),(37,.bool true),(38,.bool true),(39,undef),(40,undef),(41,undef),(42,.bool true),(43,.bool true),(44,undef),(45,undef),(46,undef),(47,undef),(48,undef),(49,undef),(50,.bool true),(51,.bool true),(52,undef),(53,undef),(54,undef),(55,undef),(56,undef),(57,undef),(58,.bool true),(59,.bool true),(60,undef),(61,undef),(62,undef),(63,.bool true),(64,.bool true),(65,undef),(66,undef),(67,undef),(68,.bool true),(69,.bool true),(70,undef),(71,undef),(72,undef),(73,.bool true)] _ (by simp only [zz4,zz5,zq];rfl) (by kernel_rfl) (by kernel_rfl) rfl ?_ ?_ ?_ ?_
       ·intro W' hW'
        have z0:=cU x0 hW'
        have z1:=cU x1 hW'
        refine fxo ?_ ?_;(go_big_quiet_step (fail);(try simp only [zq]);exact wqn rfl)
        refine fxo (wcg (by rfl) rfl rfl (fun W h=>by simp [loadVar,h,go_sem]) z0 (wqn (by simp only [zq]))) ?_
        refine fxo ?_ ?_;(go_big_quiet_step ((go_at_call 47;exact Calls.below_of (H1.out _)));(try simp only [zq]);exact wqn rfl)
        iterate 3 (refine fxo ?_ ?_;(go_big_quiet_step (fail);(try simp only [zq]);exact wqn rfl))
        refine fxo (wcg (by rfl) rfl rfl (fun W h=>by simp [loadVar,h,go_sem]) z1 (wqn (by simp only [zq]))) ?_
        iterate 4 (refine fxo ?_ ?_;(go_big_quiet_step (fail);(try simp only [zq]);exact wqn rfl))
        refine fxo (wcg (by rfl) rfl rfl (fun W h=>by simp [loadVar,h,go_sem]) z1 (wqn (by simp only [zq]))) ?_
        refine fxo ?_ ?_;(go_big_quiet_step ((go_at_call 32;exact Calls.below_same (G1.out _)));(try simp only [zq]);exact wqn rfl)
        iterate 37 (refine fxo ?_ ?_;(go_big_quiet_step (fail);(try simp only [zq]);exact wqn rfl))
        exact fxn
       ·exact oN
       ·exact oN
       intro β wx1 E
       replace FR:=hid (FR.out.fnw E rfl)
       have hE:=E.below rfl
       simp only [nP,zr,zq]
       replace FR0:=hid FR.out.le
       clear E
       go_wp2
       go_ret
       exact ⟨by rw [HF.out,okL_no (by rw [←HN.out];exact hlt) HNO.out];rfl,HBW.out.trans (FR.out.below.mono HBW.out.size)⟩
     | true =>
      have bh3:=inR_yes h3
      have nh3:¬x.net<0:=by omega
      have G1:=hid (rfar_any x.net false (by rw [Bool.not_false];exact inR_of (by omega) (by omega)))
      cases h4:inR x.flows (-1000000000000000) 1000000000000000 with
      | false =>
       have G2:=hid (rfar_any x.flows true (by rw [h4];rfl))
       have HNO:=hid (show okAt l k=false by simp [okAt,HX.out,okB,h1,h3,h4])
       clear h1
       refine wfn [] [(24,.pointer (some ⟨X,0,none⟩)),(25,.string x.name),(26,.bool true),(27,.bool false),(28,.bool false),(29,.pointer (some ⟨X,1,none⟩)),(30,.int .i64 x.net),(31,.bool false),(32,.bool false),(33,.bool false),(34,.pointer (some ⟨X,1,none⟩)),(35,.int .i64 x.net),(36,.bool false),(37,.bool false),(38,.bool false),(39,.pointer (some ⟨X,2,none⟩)),(40,.int .i64 x.flows),(41,.bool true),(42,.bool true),(43,.bool true),(44,undef),(45,undef),(46,undef),(47,undef),(48,undef),(49,undef),(50,.bool true),(51,.bool true),(52,undef),(53,undef),(54,undef),(55,undef),(56,undef),(57,undef),(58,.bool true),(59,.bool true),(60,undef),(61,undef),(62,undef),(63,.bool true),(64,.bool true),(65,undef),(66,undef),(67,undef),(68,.bool true),(69,.bool true),(70,undef),(71,undef),(72,undef),(73,.bool true)] _ (by simp only [zz4,zz5,zq];rfl) (by kernel_rfl) (by kernel_rfl) rfl ?_ ?_ ?_ ?_
       ·intro W' hW'
        have z0:=cU x0 hW'
        have z1:=cU x1 hW'
        have z2:=cU x2 hW'
        refine fxo ?_ ?_;(go_big_quiet_step (fail);(try simp only [zq]);exact wqn rfl)
        refine fxo (wcg (by rfl) rfl rfl (fun W h=>by simp [loadVar,h,go_sem]) z0 (wqn (by simp only [zq]))) ?_
        refine fxo ?_ ?_;(go_big_quiet_step ((go_at_call 47;exact Calls.below_of (H1.out _)));(try simp only [zq]);exact wqn rfl)
        iterate 3 (refine fxo ?_ ?_;(go_big_quiet_step (fail);(try simp only [zq]);exact wqn rfl))
        refine fxo (wcg (by rfl) rfl rfl (fun W h=>by simp [loadVar,h,go_sem]) z1 (wqn (by simp only [zq]))) ?_
        iterate 4 (refine fxo ?_ ?_;(go_big_quiet_step (fail);(try simp only [zq]);exact wqn rfl))
        refine fxo (wcg (by rfl) rfl rfl (fun W h=>by simp [loadVar,h,go_sem]) z1 (wqn (by simp only [zq]))) ?_
        refine fxo ?_ ?_;(go_big_quiet_step ((go_at_call 32;exact Calls.below_same (G1.out _)));(try simp only [zq]);exact wqn rfl)
        iterate 3 (refine fxo ?_ ?_;(go_big_quiet_step (fail);(try simp only [zq]);exact wqn rfl))
        refine fxo (wcg (by rfl) rfl rfl (fun W h=>by simp [loadVar,h,go_sem]) z2 (wqn (by simp only [zq]))) ?_
        refine fxo ?_ ?_;(go_big_quiet_step ((go_at_call 32;exact Calls.below_same (G2.out _)));(try simp only [zq]);exact wqn rfl)
        iterate 32 (refine fxo ?_ ?_;(go_big_quiet_step (fail);(try simp only [zq]);exact wqn rfl))
        exact fxn
       ·exact oN
       ·exact oN
       intro β wx1 E
       replace FR:=hid (FR.out.fnw E rfl)
       have hE:=E.below rfl
       simp only [nP,zr,zq]
       replace FR0:=hid FR.out.le
       clear E
       go_wp2
       go_ret
       exact ⟨by rw [HF.out,okL_no (by rw [←HN.out];exact hlt) HNO.out];rfl,HBW.out.trans (FR.out.below.mono HBW.out.size)⟩
      | true =>
       have bh4:=inR_yes h4
       have G2:=hid (rfar_any x.flows false (by rw [Bool.not_false];exact inR_of (by omega) (by omega)))
       have w5:IntKind.i64.wrap (x.net+x.flows)=x.net+x.flows:=IntWalk.i64_in _ (by omega)
       cases h5:inR (x.net+x.flows) 0 1000000000000000 with
       | false =>
        have hno:=inR_no h5
        by_cases q1:(x.net+x.flows)<0
        ·clear hno
         have HNO:=hid (show okAt l k=false by simp [okAt,HX.out,okB,h1,h3,h4,h5])
         clear h1
         refine wfn [] [(24,.pointer (some ⟨X,0,none⟩)),(25,.string x.name),(26,.bool true),(27,.bool false),(28,.bool false),(29,.pointer (some ⟨X,1,none⟩)),(30,.int .i64 x.net),(31,.bool false),(32,.bool false),(33,.bool false),(34,.pointer (some ⟨X,1,none⟩)),(35,.int .i64 x.net),(36,.bool false),(37,.bool false),(38,.bool false),(39,.pointer (some ⟨X,2,none⟩)),(40,.int .i64 x.flows),(41,.bool false),(42,.bool false),(43,.bool false),(44,.pointer (some ⟨X,1,none⟩)),(45,.int .i64 x.net),(46,.pointer (some ⟨X,2,none⟩)),(47,.int .i64 x.flows),(48,.int .i64 (x.net+x.flows)),(49,.bool true),(50,.bool true),(51,.bool true),(52,undef),(53,undef),(54,undef),(55,undef),(56,undef),(57,undef),(58,.bool true),(59,.bool true),(60,undef),(61,undef),(62,undef),(63,.bool true),(64,.bool true),(65,undef),(66,undef),(67,undef),(68,.bool true),(69,.bool true),(70,undef),(71,undef),(72,undef),(73,.bool true)] _ (by simp only [zz4,zz5,zq];rfl) (by kernel_rfl) (by kernel_rfl) rfl ?_ ?_ ?_ ?_
         ·intro W' hW'
          have z0:=cU x0 hW'
          have z1:=cU x1 hW'
          have z2:=cU x2 hW'
          refine fxo ?_ ?_;(go_big_quiet_step (fail);(try simp only [zq]);exact wqn rfl)
          refine fxo (wcg (by rfl) rfl rfl (fun W h=>by simp [loadVar,h,go_sem]) z0 (wqn (by simp only [zq]))) ?_
          refine fxo ?_ ?_;(go_big_quiet_step ((go_at_call 47;exact Calls.below_of (H1.out _)));(try simp only [zq]);exact wqn rfl)
          iterate 3 (refine fxo ?_ ?_;(go_big_quiet_step (fail);(try simp only [zq]);exact wqn rfl))
          refine fxo (wcg (by rfl) rfl rfl (fun W h=>by simp [loadVar,h,go_sem]) z1 (wqn (by simp only [zq]))) ?_
          iterate 4 (refine fxo ?_ ?_;(go_big_quiet_step (fail);(try simp only [zq]);exact wqn rfl))
          refine fxo (wcg (by rfl) rfl rfl (fun W h=>by simp [loadVar,h,go_sem]) z1 (wqn (by simp only [zq]))) ?_
          refine fxo ?_ ?_;(go_big_quiet_step ((go_at_call 32;exact Calls.below_same (G1.out _)));(try simp only [zq]);exact wqn rfl)
          iterate 3 (refine fxo ?_ ?_;(go_big_quiet_step (fail);(try simp only [zq]);exact wqn rfl))
          refine fxo (wcg (by rfl) rfl rfl (fun W h=>by simp [loadVar,h,go_sem]) z2 (wqn (by simp only [zq]))) ?_
          refine fxo ?_ ?_;(go_big_quiet_step ((go_at_call 32;exact Calls.below_same (G2.out _)));(try simp only [zq]);exact wqn rfl)
          iterate 3 (refine fxo ?_ ?_;(go_big_quiet_step (fail);(try simp only [zq]);exact wqn rfl))
          refine fxo (wcg (by rfl) rfl rfl (fun W h=>by simp [loadVar,h,go_sem]) z1 (wqn (by simp only [zq]))) ?_
          refine fxo ?_ ?_;(go_big_quiet_step (fail);(try simp only [zq]);exact wqn rfl)
          refine fxo (wcg (by rfl) rfl rfl (fun W h=>by simp [loadVar,h,go_sem]) z2 (wqn (by simp only [zq]))) ?_
          iterate 26 (refine fxo ?_ ?_;(go_big_quiet_step (fail);(try simp only [zq]);exact wqn rfl))
          exact fxn
         ·exact oN
         ·exact oN
         intro β wx1 E
         replace FR:=hid (FR.out.fnw E rfl)
         have hE:=E.below rfl
         simp only [nP,zr,zq]
         replace FR0:=hid FR.out.le
         clear E
         go_wp2
         go_ret
         exact ⟨by rw [HF.out,okL_no (by rw [←HN.out];exact hlt) HNO.out];rfl,HBW.out.trans (FR.out.below.mono HBW.out.size)⟩
        ·have G3:=hid (rfar_any (x.net+x.flows) true (by rw [Bool.not_true,Bool.eq_false_iff];intro hq;have:=inR_yes hq;omega))
         clear hno
         have HNO:=hid (show okAt l k=false by simp [okAt,HX.out,okB,h1,h3,h4,h5])
         clear h1
         refine wfn [] [(24,.pointer (some ⟨X,0,none⟩)),(25,.string x.name),(26,.bool true),(27,.bool false),(28,.bool false),(29,.pointer (some ⟨X,1,none⟩)),(30,.int .i64 x.net),(31,.bool false),(32,.bool false),(33,.bool false),(34,.pointer (some ⟨X,1,none⟩)),(35,.int .i64 x.net),(36,.bool false),(37,.bool false),(38,.bool false),(39,.pointer (some ⟨X,2,none⟩)),(40,.int .i64 x.flows),(41,.bool false),(42,.bool false),(43,.bool false),(44,.pointer (some ⟨X,1,none⟩)),(45,.int .i64 x.net),(46,.pointer (some ⟨X,2,none⟩)),(47,.int .i64 x.flows),(48,.int .i64 (x.net+x.flows)),(49,.bool false),(50,.bool false),(51,.bool false),(52,.pointer (some ⟨X,1,none⟩)),(53,.int .i64 x.net),(54,.pointer (some ⟨X,2,none⟩)),(55,.int .i64 x.flows),(56,.int .i64 (x.net+x.flows)),(57,.bool true),(58,.bool true),(59,.bool true),(60,undef),(61,undef),(62,undef),(63,.bool true),(64,.bool true),(65,undef),(66,undef),(67,undef),(68,.bool true),(69,.bool true),(70,undef),(71,undef),(72,undef),(73,.bool true)] _ (by simp only [zz4,zz5,zq];rfl) (by kernel_rfl) (by kernel_rfl) rfl ?_ ?_ ?_ ?_
         ·intro W' hW'
          have z0:=cU x0 hW'
          have z1:=cU x1 hW'
          have z2:=cU x2 hW'
          refine fxo ?_ ?_;(go_big_quiet_step (fail);(try simp only [zq]);exact wqn rfl)
          refine fxo (wcg (by rfl) rfl rfl (fun W h=>by simp [loadVar,h,go_sem]) z0 (wqn (by simp only [zq]))) ?_
          refine fxo ?_ ?_;(go_big_quiet_step ((go_at_call 47;exact Calls.below_of (H1.out _)));(try simp only [zq]);exact wqn rfl)
          iterate 3 (refine fxo ?_ ?_;(go_big_quiet_step (fail);(try simp only [zq]);exact wqn rfl))
          refine fxo (wcg (by rfl) rfl rfl (fun W h=>by simp [loadVar,h,go_sem]) z1 (wqn (by simp only [zq]))) ?_
          iterate 4 (refine fxo ?_ ?_;(go_big_quiet_step (fail);(try simp only [zq]);exact wqn rfl))
          refine fxo (wcg (by rfl) rfl rfl (fun W h=>by simp [loadVar,h,go_sem]) z1 (wqn (by simp only [zq]))) ?_
          refine fxo ?_ ?_;(go_big_quiet_step ((go_at_call 32;exact Calls.below_same (G1.out _)));(try simp only [zq]);exact wqn rfl)
          iterate 3 (refine fxo ?_ ?_;(go_big_quiet_step (fail);(try simp only [zq]);exact wqn rfl))
          refine fxo (wcg (by rfl) rfl rfl (fun W h=>by simp [loadVar,h,go_sem]) z2 (wqn (by simp only [zq]))) ?_
          refine fxo ?_ ?_;(go_big_quiet_step ((go_at_call 32;exact Calls.below_same (G2.out _)));(try simp only [zq]);exact wqn rfl)
          iterate 3 (refine fxo ?_ ?_;(go_big_quiet_step (fail);(try simp only [zq]);exact wqn rfl))
          refine fxo (wcg (by rfl) rfl rfl (fun W h=>by simp [loadVar,h,go_sem]) z1 (wqn (by simp only [zq]))) ?_
          refine fxo ?_ ?_;(go_big_quiet_step (fail);(try simp only [zq]);exact wqn rfl)
          refine fxo (wcg (by rfl) rfl rfl (fun W h=>by simp [loadVar,h,go_sem]) z2 (wqn (by simp only [zq]))) ?_
          iterate 5 (refine fxo ?_ ?_;(go_big_quiet_step (fail);(try simp only [zq]);exact wqn rfl))
          refine fxo (wcg (by rfl) rfl rfl (fun W h=>by simp [loadVar,h,go_sem]) z1 (wqn (by simp only [zq]))) ?_
          refine fxo ?_ ?_;(go_big_quiet_step (fail);(try simp only [zq]);exact wqn rfl)
          refine fxo (wcg (by rfl) rfl rfl (fun W h=>by simp [loadVar,h,go_sem]) z2 (wqn (by simp only [zq]))) ?_
          refine fxo ?_ ?_;(go_big_quiet_step (fail);(try simp only [zq]);exact wqn rfl)
          refine fxo ?_ ?_;(go_big_quiet_step ((go_at_call 32;exact Calls.below_same (G3.out _)));(try simp only [zq]);exact wqn rfl)
          iterate 16 (refine fxo ?_ ?_;(go_big_quiet_step (fail);(try simp only [zq]);exact wqn rfl))
          exact fxn
         ·exact oN
         ·exact oN
         intro β wx1 E
         replace FR:=hid (FR.out.fnw E rfl)
         have hE:=E.below rfl
         simp only [nP,zr,zq]
         replace FR0:=hid FR.out.le
         clear E
         go_wp2
         go_ret
         exact ⟨by rw [HF.out,okL_no (by rw [←HN.out];exact hlt) HNO.out];rfl,HBW.out.trans (FR.out.below.mono HBW.out.size)⟩
       | true =>
        have bh5:=inR_yes h5
        have nh5:¬(x.net+x.flows)<0:=by omega
        have G3:=hid (rfar_any (x.net+x.flows) false (by rw [Bool.not_false];exact inR_of (by omega) (by omega)))
        cases h6:inR x.own (-1000000000000000) 1000000000000000 with
        | false =>
         have G4:=hid (rfar_any x.own true (by rw [h6];rfl))
         have HNO:=hid (show okAt l k=false by simp [okAt,HX.out,okB,h1,h3,h4,h5,h6])
         clear h1
         refine wfn [] [(24,.pointer (some ⟨X,0,none⟩)),(25,.string x.name),(26,.bool true),(27,.bool false),(28,.bool false),(29,.pointer (some ⟨X,1,none⟩)),(30,.int .i64 x.net),(31,.bool false),(32,.bool false),(33,.bool false),(34,.pointer (some ⟨X,1,none⟩)),(35,.int .i64 x.net),(36,.bool false),(37,.bool false),(38,.bool false),(39,.pointer (some ⟨X,2,none⟩)),(40,.int .i64 x.flows),(41,.bool false),(42,.bool false),(43,.bool false),(44,.pointer (some ⟨X,1,none⟩)),(45,.int .i64 x.net),(46,.pointer (some ⟨X,2,none⟩)),(47,.int .i64 x.flows),(48,.int .i64 (x.net+x.flows)),(49,.bool false),(50,.bool false),(51,.bool false),(52,.pointer (some ⟨X,1,none⟩)),(53,.int .i64 x.net),(54,.pointer (some ⟨X,2,none⟩)),(55,.int .i64 x.flows),(56,.int .i64 (x.net+x.flows)),(57,.bool false),(58,.bool false),(59,.bool false),(60,.pointer (some ⟨X,3,none⟩)),(61,.int .i64 x.own),(62,.bool true),(63,.bool true),(64,.bool true),(65,undef),(66,undef),(67,undef),(68,.bool true),(69,.bool true),(70,undef),(71,undef),(72,undef),(73,.bool true)] _ (by simp only [zz4,zz5,zq];rfl) (by kernel_rfl) (by kernel_rfl) rfl ?_ ?_ ?_ ?_
         ·intro W' hW'
          have z0:=cU x0 hW'
          have z1:=cU x1 hW'
          have z2:=cU x2 hW'
          have z3:=cU x3 hW'
          refine fxo ?_ ?_;(go_big_quiet_step (fail);(try simp only [zq]);exact wqn rfl)
          refine fxo (wcg (by rfl) rfl rfl (fun W h=>by simp [loadVar,h,go_sem]) z0 (wqn (by simp only [zq]))) ?_
          refine fxo ?_ ?_;(go_big_quiet_step ((go_at_call 47;exact Calls.below_of (H1.out _)));(try simp only [zq]);exact wqn rfl)
          iterate 3 (refine fxo ?_ ?_;(go_big_quiet_step (fail);(try simp only [zq]);exact wqn rfl))
          refine fxo (wcg (by rfl) rfl rfl (fun W h=>by simp [loadVar,h,go_sem]) z1 (wqn (by simp only [zq]))) ?_
          iterate 4 (refine fxo ?_ ?_;(go_big_quiet_step (fail);(try simp only [zq]);exact wqn rfl))
          refine fxo (wcg (by rfl) rfl rfl (fun W h=>by simp [loadVar,h,go_sem]) z1 (wqn (by simp only [zq]))) ?_
          refine fxo ?_ ?_;(go_big_quiet_step ((go_at_call 32;exact Calls.below_same (G1.out _)));(try simp only [zq]);exact wqn rfl)
          iterate 3 (refine fxo ?_ ?_;(go_big_quiet_step (fail);(try simp only [zq]);exact wqn rfl))
          refine fxo (wcg (by rfl) rfl rfl (fun W h=>by simp [loadVar,h,go_sem]) z2 (wqn (by simp only [zq]))) ?_
          refine fxo ?_ ?_;(go_big_quiet_step ((go_at_call 32;exact Calls.below_same (G2.out _)));(try simp only [zq]);exact wqn rfl)
          iterate 3 (refine fxo ?_ ?_;(go_big_quiet_step (fail);(try simp only [zq]);exact wqn rfl))
          refine fxo (wcg (by rfl) rfl rfl (fun W h=>by simp [loadVar,h,go_sem]) z1 (wqn (by simp only [zq]))) ?_
          refine fxo ?_ ?_;(go_big_quiet_step (fail);(try simp only [zq]);exact wqn rfl)
          refine fxo (wcg (by rfl) rfl rfl (fun W h=>by simp [loadVar,h,go_sem]) z2 (wqn (by simp only [zq]))) ?_
          iterate 5 (refine fxo ?_ ?_;(go_big_quiet_step (fail);(try simp only [zq]);exact wqn rfl))
          refine fxo (wcg (by rfl) rfl rfl (fun W h=>by simp [loadVar,h,go_sem]) z1 (wqn (by simp only [zq]))) ?_
          refine fxo ?_ ?_;(go_big_quiet_step (fail);(try simp only [zq]);exact wqn rfl)
          refine fxo (wcg (by rfl) rfl rfl (fun W h=>by simp [loadVar,h,go_sem]) z2 (wqn (by simp only [zq]))) ?_
          refine fxo ?_ ?_;(go_big_quiet_step (fail);(try simp only [zq]);exact wqn rfl)
          refine fxo ?_ ?_;(go_big_quiet_step ((go_at_call 32;exact Calls.below_same (G3.out _)));(try simp only [zq]);exact wqn rfl)
          iterate 3 (refine fxo ?_ ?_;(go_big_quiet_step (fail);(try simp only [zq]);exact wqn rfl))
          refine fxo (wcg (by rfl) rfl rfl (fun W h=>by simp [loadVar,h,go_sem]) z3 (wqn (by simp only [zq]))) ?_
          refine fxo ?_ ?_;(go_big_quiet_step ((go_at_call 32;exact Calls.below_same (G4.out _)));(try simp only [zq]);exact wqn rfl)
          iterate 11 (refine fxo ?_ ?_;(go_big_quiet_step (fail);(try simp only [zq]);exact wqn rfl))
          exact fxn
         ·exact oN
         ·exact oN
         intro β wx1 E
         replace FR:=hid (FR.out.fnw E rfl)
         have hE:=E.below rfl
         simp only [nP,zr,zq]
         replace FR0:=hid FR.out.le
         clear E
         go_wp2
         go_ret
         exact ⟨by rw [HF.out,okL_no (by rw [←HN.out];exact hlt) HNO.out];rfl,HBW.out.trans (FR.out.below.mono HBW.out.size)⟩
        | true =>
         have bh6:=inR_yes h6
         have G4:=hid (rfar_any x.own false (by rw [Bool.not_false];exact inR_of (by omega) (by omega)))
         cases h7:inR x.units 0 1000000000000000 with
         | false =>
          have hno:=inR_no h7
          by_cases q1:x.units<0
          ·clear hno
           have HNO:=hid (show okAt l k=false by simp [okAt,HX.out,okB,h1,h3,h4,h5,h6,h7])
           clear h1
           refine wfn [] [(24,.pointer (some ⟨X,0,none⟩)),(25,.string x.name),(26,.bool true),(27,.bool false),(28,.bool false),(29,.pointer (some ⟨X,1,none⟩)),(30,.int .i64 x.net),(31,.bool false),(32,.bool false),(33,.bool false),(34,.pointer (some ⟨X,1,none⟩)),(35,.int .i64 x.net),(36,.bool false),(37,.bool false),(38,.bool false),(39,.pointer (some ⟨X,2,none⟩)),(40,.int .i64 x.flows),(41,.bool false),(42,.bool false),(43,.bool false),(44,.pointer (some ⟨X,1,none⟩)),(45,.int .i64 x.net),(46,.pointer (some ⟨X,2,none⟩)),(47,.int .i64 x.flows),(48,.int .i64 (x.net+x.flows)),(49,.bool false),(50,.bool false),(51,.bool false),(52,.pointer (some ⟨X,1,none⟩)),(53,.int .i64 x.net),(54,.pointer (some ⟨X,2,none⟩)),(55,.int .i64 x.flows),(56,.int .i64 (x.net+x.flows)),(57,.bool false),(58,.bool false),(59,.bool false),(60,.pointer (some ⟨X,3,none⟩)),(61,.int .i64 x.own),(62,.bool false),(63,.bool false),(64,.bool false),(65,.pointer (some ⟨X,4,none⟩)),(66,.int .i64 x.units),(67,.bool true),(68,.bool true),(69,.bool true),(70,undef),(71,undef),(72,undef),(73,.bool true)] _ (by simp only [zz4,zz5,zq];rfl) (by kernel_rfl) (by kernel_rfl) rfl ?_ ?_ ?_ ?_
           ·intro W' hW'
            have z0:=cU x0 hW'
            have z1:=cU x1 hW'
            have z2:=cU x2 hW'
            have z3:=cU x3 hW'
            have z4:=cU x4 hW'
            refine fxo ?_ ?_;(go_big_quiet_step (fail);(try simp only [zq]);exact wqn rfl)
            refine fxo (wcg (by rfl) rfl rfl (fun W h=>by simp [loadVar,h,go_sem]) z0 (wqn (by simp only [zq]))) ?_
            refine fxo ?_ ?_;(go_big_quiet_step ((go_at_call 47;exact Calls.below_of (H1.out _)));(try simp only [zq]);exact wqn rfl)
            iterate 3 (refine fxo ?_ ?_;(go_big_quiet_step (fail);(try simp only [zq]);exact wqn rfl))
            refine fxo (wcg (by rfl) rfl rfl (fun W h=>by simp [loadVar,h,go_sem]) z1 (wqn (by simp only [zq]))) ?_
            iterate 4 (refine fxo ?_ ?_;(go_big_quiet_step (fail);(try simp only [zq]);exact wqn rfl))
            refine fxo (wcg (by rfl) rfl rfl (fun W h=>by simp [loadVar,h,go_sem]) z1 (wqn (by simp only [zq]))) ?_
            refine fxo ?_ ?_;(go_big_quiet_step ((go_at_call 32;exact Calls.below_same (G1.out _)));(try simp only [zq]);exact wqn rfl)
            iterate 3 (refine fxo ?_ ?_;(go_big_quiet_step (fail);(try simp only [zq]);exact wqn rfl))
            refine fxo (wcg (by rfl) rfl rfl (fun W h=>by simp [loadVar,h,go_sem]) z2 (wqn (by simp only [zq]))) ?_
            refine fxo ?_ ?_;(go_big_quiet_step ((go_at_call 32;exact Calls.below_same (G2.out _)));(try simp only [zq]);exact wqn rfl)
            iterate 3 (refine fxo ?_ ?_;(go_big_quiet_step (fail);(try simp only [zq]);exact wqn rfl))
            refine fxo (wcg (by rfl) rfl rfl (fun W h=>by simp [loadVar,h,go_sem]) z1 (wqn (by simp only [zq]))) ?_
            refine fxo ?_ ?_;(go_big_quiet_step (fail);(try simp only [zq]);exact wqn rfl)
            refine fxo (wcg (by rfl) rfl rfl (fun W h=>by simp [loadVar,h,go_sem]) z2 (wqn (by simp only [zq]))) ?_
            iterate 5 (refine fxo ?_ ?_;(go_big_quiet_step (fail);(try simp only [zq]);exact wqn rfl))
            refine fxo (wcg (by rfl) rfl rfl (fun W h=>by simp [loadVar,h,go_sem]) z1 (wqn (by simp only [zq]))) ?_
            refine fxo ?_ ?_;(go_big_quiet_step (fail);(try simp only [zq]);exact wqn rfl)
            refine fxo (wcg (by rfl) rfl rfl (fun W h=>by simp [loadVar,h,go_sem]) z2 (wqn (by simp only [zq]))) ?_
            refine fxo ?_ ?_;(go_big_quiet_step (fail);(try simp only [zq]);exact wqn rfl)
            refine fxo ?_ ?_;(go_big_quiet_step ((go_at_call 32;exact Calls.below_same (G3.out _)));(try simp only [zq]);exact wqn rfl)
            iterate 3 (refine fxo ?_ ?_;(go_big_quiet_step (fail);(try simp only [zq]);exact wqn rfl))
            refine fxo (wcg (by rfl) rfl rfl (fun W h=>by simp [loadVar,h,go_sem]) z3 (wqn (by simp only [zq]))) ?_
            refine fxo ?_ ?_;(go_big_quiet_step ((go_at_call 32;exact Calls.below_same (G4.out _)));(try simp only [zq]);exact wqn rfl)
            iterate 3 (refine fxo ?_ ?_;(go_big_quiet_step (fail);(try simp only [zq]);exact wqn rfl))
            refine fxo (wcg (by rfl) rfl rfl (fun W h=>by simp [loadVar,h,go_sem]) z4 (wqn (by simp only [zq]))) ?_
            iterate 7 (refine fxo ?_ ?_;(go_big_quiet_step (fail);(try simp only [zq]);exact wqn rfl))
            exact fxn
           ·exact oN
           ·exact oN
           intro β wx1 E
           replace FR:=hid (FR.out.fnw E rfl)
           have hE:=E.below rfl
           simp only [nP,zr,zq]
           replace FR0:=hid FR.out.le
           clear E
           go_wp2
           go_ret
           exact ⟨by rw [HF.out,okL_no (by rw [←HN.out];exact hlt) HNO.out];rfl,HBW.out.trans (FR.out.below.mono HBW.out.size)⟩
          ·have q2:(1000000000000000:Int)<x.units:=by omega
           clear hno
           have HNO:=hid (show okAt l k=false by simp [okAt,HX.out,okB,h1,h3,h4,h5,h6,h7])
           clear h1
           refine wfn [] [(24,.pointer (some ⟨X,0,none⟩)),(25,.string x.name),(26,.bool true),(27,.bool false),(28,.bool false),(29,.pointer (some ⟨X,1,none⟩)),(30,.int .i64 x.net),(31,.bool false),(32,.bool false),(33,.bool false),(34,.pointer (some ⟨X,1,none⟩)),(35,.int .i64 x.net),(36,.bool false),(37,.bool false),(38,.bool false),(39,.pointer (some ⟨X,2,none⟩)),(40,.int .i64 x.flows),(41,.bool false),(42,.bool false),(43,.bool false),(44,.pointer (some ⟨X,1,none⟩)),(45,.int .i64 x.net),(46,.pointer (some ⟨X,2,none⟩)),(47,.int .i64 x.flows),(48,.int .i64 (x.net+x.flows)),(49,.bool false),(50,.bool false),(51,.bool false),(52,.pointer (some ⟨X,1,none⟩)),(53,.int .i64 x.net),(54,.pointer (some ⟨X,2,none⟩)),(55,.int .i64 x.flows),(56,.int .i64 (x.net+x.flows)),(57,.bool false),(58,.bool false),(59,.bool false),(60,.pointer (some ⟨X,3,none⟩)),(61,.int .i64 x.own),(62,.bool false),(63,.bool false),(64,.bool false),(65,.pointer (some ⟨X,4,none⟩)),(66,.int .i64 x.units),(67,.bool false),(68,.bool false),(69,.bool false),(70,.pointer (some ⟨X,4,none⟩)),(71,.int .i64 x.units),(72,.bool true),(73,.bool true)] _ (by simp only [zz4,zz5,zq];rfl) (by kernel_rfl) (by kernel_rfl) rfl ?_ ?_ ?_ ?_
           ·intro W' hW'
            have z0:=cU x0 hW'
            have z1:=cU x1 hW'
            have z2:=cU x2 hW'
            have z3:=cU x3 hW'
            have z4:=cU x4 hW'
            refine fxo ?_ ?_;(go_big_quiet_step (fail);(try simp only [zq]);exact wqn rfl)
            refine fxo (wcg (by rfl) rfl rfl (fun W h=>by simp [loadVar,h,go_sem]) z0 (wqn (by simp only [zq]))) ?_
            refine fxo ?_ ?_;(go_big_quiet_step ((go_at_call 47;exact Calls.below_of (H1.out _)));(try simp only [zq]);exact wqn rfl)
            iterate 3 (refine fxo ?_ ?_;(go_big_quiet_step (fail);(try simp only [zq]);exact wqn rfl))
            refine fxo (wcg (by rfl) rfl rfl (fun W h=>by simp [loadVar,h,go_sem]) z1 (wqn (by simp only [zq]))) ?_
            iterate 4 (refine fxo ?_ ?_;(go_big_quiet_step (fail);(try simp only [zq]);exact wqn rfl))
            refine fxo (wcg (by rfl) rfl rfl (fun W h=>by simp [loadVar,h,go_sem]) z1 (wqn (by simp only [zq]))) ?_
            refine fxo ?_ ?_;(go_big_quiet_step ((go_at_call 32;exact Calls.below_same (G1.out _)));(try simp only [zq]);exact wqn rfl)
            iterate 3 (refine fxo ?_ ?_;(go_big_quiet_step (fail);(try simp only [zq]);exact wqn rfl))
            refine fxo (wcg (by rfl) rfl rfl (fun W h=>by simp [loadVar,h,go_sem]) z2 (wqn (by simp only [zq]))) ?_
            refine fxo ?_ ?_;(go_big_quiet_step ((go_at_call 32;exact Calls.below_same (G2.out _)));(try simp only [zq]);exact wqn rfl)
            iterate 3 (refine fxo ?_ ?_;(go_big_quiet_step (fail);(try simp only [zq]);exact wqn rfl))
            refine fxo (wcg (by rfl) rfl rfl (fun W h=>by simp [loadVar,h,go_sem]) z1 (wqn (by simp only [zq]))) ?_
            refine fxo ?_ ?_;(go_big_quiet_step (fail);(try simp only [zq]);exact wqn rfl)
            refine fxo (wcg (by rfl) rfl rfl (fun W h=>by simp [loadVar,h,go_sem]) z2 (wqn (by simp only [zq]))) ?_
            iterate 5 (refine fxo ?_ ?_;(go_big_quiet_step (fail);(try simp only [zq]);exact wqn rfl))
            refine fxo (wcg (by rfl) rfl rfl (fun W h=>by simp [loadVar,h,go_sem]) z1 (wqn (by simp only [zq]))) ?_
            refine fxo ?_ ?_;(go_big_quiet_step (fail);(try simp only [zq]);exact wqn rfl)
            refine fxo (wcg (by rfl) rfl rfl (fun W h=>by simp [loadVar,h,go_sem]) z2 (wqn (by simp only [zq]))) ?_
            refine fxo ?_ ?_;(go_big_quiet_step (fail);(try simp only [zq]);exact wqn rfl)
            refine fxo ?_ ?_;(go_big_quiet_step ((go_at_call 32;exact Calls.below_same (G3.out _)));(try simp only [zq]);exact wqn rfl)
            iterate 3 (refine fxo ?_ ?_;(go_big_quiet_step (fail);(try simp only [zq]);exact wqn rfl))
            refine fxo (wcg (by rfl) rfl rfl (fun W h=>by simp [loadVar,h,go_sem]) z3 (wqn (by simp only [zq]))) ?_
            refine fxo ?_ ?_;(go_big_quiet_step ((go_at_call 32;exact Calls.below_same (G4.out _)));(try simp only [zq]);exact wqn rfl)
            iterate 3 (refine fxo ?_ ?_;(go_big_quiet_step (fail);(try simp only [zq]);exact wqn rfl))
            refine fxo (wcg (by rfl) rfl rfl (fun W h=>by simp [loadVar,h,go_sem]) z4 (wqn (by simp only [zq]))) ?_
            iterate 4 (refine fxo ?_ ?_;(go_big_quiet_step (fail);(try simp only [zq]);exact wqn rfl))
            refine fxo (wcg (by rfl) rfl rfl (fun W h=>by simp [loadVar,h,go_sem]) z4 (wqn (by simp only [zq]))) ?_
            iterate 2 (refine fxo ?_ ?_;(go_big_quiet_step (fail);(try simp only [zq]);exact wqn rfl))
            exact fxn
           ·exact oN
           ·exact oN
           intro β wx1 E
           replace FR:=hid (FR.out.fnw E rfl)
           have hE:=E.below rfl
           simp only [nP,zr,zq]
           replace FR0:=hid FR.out.le
           clear E
           go_wp2
           go_ret
           exact ⟨by rw [HF.out,okL_no (by rw [←HN.out];exact hlt) HNO.out];rfl,HBW.out.trans (FR.out.below.mono HBW.out.size)⟩
         | true =>
          have bh7:=inR_yes h7
          have nh7:¬x.units<0:=by omega
          have mh7:¬(1000000000000000:Int)<x.units:=by omega
          have HEQ:=hid (show okAt l k=!((l.take k).any fun c=>decide (c.name=x.name)) by simp [okAt,HX.out,okB,h1,h3,h4,h5,h6,h7])
          clear h1
          refine wfn [] [(24,.pointer (some ⟨X,0,none⟩)),(25,.string x.name),(26,.bool true),(27,.bool false),(28,.bool false),(29,.pointer (some ⟨X,1,none⟩)),(30,.int .i64 x.net),(31,.bool false),(32,.bool false),(33,.bool false),(34,.pointer (some ⟨X,1,none⟩)),(35,.int .i64 x.net),(36,.bool false),(37,.bool false),(38,.bool false),(39,.pointer (some ⟨X,2,none⟩)),(40,.int .i64 x.flows),(41,.bool false),(42,.bool false),(43,.bool false),(44,.pointer (some ⟨X,1,none⟩)),(45,.int .i64 x.net),(46,.pointer (some ⟨X,2,none⟩)),(47,.int .i64 x.flows),(48,.int .i64 (x.net+x.flows)),(49,.bool false),(50,.bool false),(51,.bool false),(52,.pointer (some ⟨X,1,none⟩)),(53,.int .i64 x.net),(54,.pointer (some ⟨X,2,none⟩)),(55,.int .i64 x.flows),(56,.int .i64 (x.net+x.flows)),(57,.bool false),(58,.bool false),(59,.bool false),(60,.pointer (some ⟨X,3,none⟩)),(61,.int .i64 x.own),(62,.bool false),(63,.bool false),(64,.bool false),(65,.pointer (some ⟨X,4,none⟩)),(66,.int .i64 x.units),(67,.bool false),(68,.bool false),(69,.bool false),(70,.pointer (some ⟨X,4,none⟩)),(71,.int .i64 x.units),(72,.bool false),(73,.bool false)] _ (by simp only [zz4,zz5,zq];rfl) (by kernel_rfl) (by kernel_rfl) rfl ?_ ?_ ?_ ?_
          ·intro W' hW'
           have z0:=cU x0 hW'
           have z1:=cU x1 hW'
           have z2:=cU x2 hW'
           have z3:=cU x3 hW'
           have z4:=cU x4 hW'
           refine fxo ?_ ?_;(go_big_quiet_step (fail);(try simp only [zq]);exact wqn rfl)
           refine fxo (wcg (by rfl) rfl rfl (fun W h=>by simp [loadVar,h,go_sem]) z0 (wqn (by simp only [zq]))) ?_
           refine fxo ?_ ?_;(go_big_quiet_step ((go_at_call 47;exact Calls.below_of (H1.out _)));(try simp only [zq]);exact wqn rfl)
           iterate 3 (refine fxo ?_ ?_;(go_big_quiet_step (fail);(try simp only [zq]);exact wqn rfl))
           refine fxo (wcg (by rfl) rfl rfl (fun W h=>by simp [loadVar,h,go_sem]) z1 (wqn (by simp only [zq]))) ?_
           iterate 4 (refine fxo ?_ ?_;(go_big_quiet_step (fail);(try simp only [zq]);exact wqn rfl))
           refine fxo (wcg (by rfl) rfl rfl (fun W h=>by simp [loadVar,h,go_sem]) z1 (wqn (by simp only [zq]))) ?_
           refine fxo ?_ ?_;(go_big_quiet_step ((go_at_call 32;exact Calls.below_same (G1.out _)));(try simp only [zq]);exact wqn rfl)
           iterate 3 (refine fxo ?_ ?_;(go_big_quiet_step (fail);(try simp only [zq]);exact wqn rfl))
           refine fxo (wcg (by rfl) rfl rfl (fun W h=>by simp [loadVar,h,go_sem]) z2 (wqn (by simp only [zq]))) ?_
           refine fxo ?_ ?_;(go_big_quiet_step ((go_at_call 32;exact Calls.below_same (G2.out _)));(try simp only [zq]);exact wqn rfl)
           iterate 3 (refine fxo ?_ ?_;(go_big_quiet_step (fail);(try simp only [zq]);exact wqn rfl))
           refine fxo (wcg (by rfl) rfl rfl (fun W h=>by simp [loadVar,h,go_sem]) z1 (wqn (by simp only [zq]))) ?_
           refine fxo ?_ ?_;(go_big_quiet_step (fail);(try simp only [zq]);exact wqn rfl)
           refine fxo (wcg (by rfl) rfl rfl (fun W h=>by simp [loadVar,h,go_sem]) z2 (wqn (by simp only [zq]))) ?_
           iterate 5 (refine fxo ?_ ?_;(go_big_quiet_step (fail);(try simp only [zq]);exact wqn rfl))
           refine fxo (wcg (by rfl) rfl rfl (fun W h=>by simp [loadVar,h,go_sem]) z1 (wqn (by simp only [zq]))) ?_
           refine fxo ?_ ?_;(go_big_quiet_step (fail);(try simp only [zq]);exact wqn rfl)
           refine fxo (wcg (by rfl) rfl rfl (fun W h=>by simp [loadVar,h,go_sem]) z2 (wqn (by simp only [zq]))) ?_
           refine fxo ?_ ?_;(go_big_quiet_step (fail);(try simp only [zq]);exact wqn rfl)
           refine fxo ?_ ?_;(go_big_quiet_step ((go_at_call 32;exact Calls.below_same (G3.out _)));(try simp only [zq]);exact wqn rfl)
           iterate 3 (refine fxo ?_ ?_;(go_big_quiet_step (fail);(try simp only [zq]);exact wqn rfl))
           refine fxo (wcg (by rfl) rfl rfl (fun W h=>by simp [loadVar,h,go_sem]) z3 (wqn (by simp only [zq]))) ?_
           refine fxo ?_ ?_;(go_big_quiet_step ((go_at_call 32;exact Calls.below_same (G4.out _)));(try simp only [zq]);exact wqn rfl)
           iterate 3 (refine fxo ?_ ?_;(go_big_quiet_step (fail);(try simp only [zq]);exact wqn rfl))
           refine fxo (wcg (by rfl) rfl rfl (fun W h=>by simp [loadVar,h,go_sem]) z4 (wqn (by simp only [zq]))) ?_
           iterate 4 (refine fxo ?_ ?_;(go_big_quiet_step (fail);(try simp only [zq]);exact wqn rfl))
           refine fxo (wcg (by rfl) rfl rfl (fun W h=>by simp [loadVar,h,go_sem]) z4 (wqn (by simp only [zq]))) ?_
           iterate 2 (refine fxo ?_ ?_;(go_big_quiet_step (fail);(try simp only [zq]);exact wqn rfl))
           exact fxn
          ·exact oN
          ·exact oN
          intro β wx1 E
          replace FR:=hid (FR.out.fnw E rfl)
          have hE:=E.below rfl
          simp only [nP,zr,zq]
          replace FR0:=hid FR.out.le
          clear E
          have z0:=cU x0 FR.out.below
          have HBN:=hid (HBW.out.trans (FR.out.below.mono HBW.out.size))
          obtain ⟨W2,hW2⟩:∃ W,W=wx1:=⟨_,rfl⟩
          rw [←hW2] at z0 HBN ⊢
          clear hW2 FR FR0
          go_upto_region 10 with fail
          clear bh3 bh4 bh5 bh6 bh7 nh3 nh5 nh7 mh7 w5 x0 x1 x2 x3 x4
          obtain ⟨gk0,rfl⟩:∃ q,q=gk:=⟨gk,rfl⟩
          have HMM:=hid (And.intro hm hlt)
          clear hm
          go_loopg [5] k (fun m jv wq=>∃ j:Nat,jv=.int .i64 (j:Int)∧j≤k∧k≤m+j∧(∀ i y,i<j→l[i]?=some y→y.name≠x.name)∧Below W2.heap.size W2 wq)
          case atStart=>exact ⟨0,rfl,by omega,by omega,fun i y hi=>absurd hi (by omega),Below.refl _ _⟩
          case round =>
           obtain ⟨j,rfl,hj,hmj,hall,hbw⟩:=hrel
           have HALL:=hid hall
           clear hall
           have hbq:=hid (HBN.out.trans (hbw.mono HBN.out.size))
           have y0:=cU z0 hbw
           have HBW2:=hid hbw
           clear hbw
           by_cases hjk:j<k
           ·obtain ⟨y,hy⟩:∃ y,l[j]?=some y:=⟨l[j]'(by rw [←HN.out];omega),by simp [←HN.out,show j<n by omega]⟩
            have c0:=((HC.out j y hy).below hbq.out).1
            have HY:=hid hy
            clear hy
            by_cases he:y.name=x.name
            ·have HNO:=hid (show okAt l k=false by rw [HEQ.out,any_yes hjk HY.out he];rfl)
             rw [he] at c0
             clear he
             go_upto_region 12 with fail
             go_quiet (fail)
             go_wp2
             go_ret
             exact ⟨by rw [HF.out,okL_no (by rw [←HN.out];exact hlt) HNO.out];rfl,below_drewN hbq.out _⟩
            ·have HNE:=hid he
             have hne:(y.name.toList==x.name.toList)=false:=beqB_false he
             clear he
             go_upto_region 12 with fail
             go_quiet (fail)
             go_wp2
             go_roundg (gk - 1)
             case measure=>omega
             case rel=>exact ⟨j+1,by go_num,by omega,by omega,fun i z hi hz=>by
              by_cases hij:i=j
              ·subst hij;rw [HY.out] at hz;injection hz with hz;rw [←hz];exact HNE.out
              ·exact HALL.out i z (by omega) hz,below_drewN HBW2.out _⟩
           ·have HYES:=hid (show okAt l k=true by rw [HEQ.out,any_no (fun i y hi hy=>HALL.out i y (by omega) hy)];rfl)
            go_wp2
            go_roundg (gk0 - 1)
            case measure=>have:=HMM.out;omega
            case rel=>exact ⟨k+1,by omega,by have:=HMM.out;omega,by go_num,fun i hi=>by
             by_cases hik:i=k
             ·rw [hik,HYES.out]
             ·exact HOK.out i (by omega),hbq.out⟩
   ·go_wp2
    go_ret
    exact ⟨by rw [HF.out,okL_yes (l:=l) (fun j hj=>HOK.out j (by rw [←HN.out] at hj;omega))];rfl,HB0.out⟩
theorem rsums_any (v:Value) (l:List Bk) (w:World) (h:BksAt w v l) (hO:Oks l) :
  Calls Tryz.prog 33 #[v] w fun e w'=>e=.returned (.tuple #[.int .i64 (sumL (l.map Bk.op):Nat),.int .i64 (ownS l)])∧Below w.heap.size w w':=by
 obtain ⟨g,off,cap,rfl,hc⟩:=bks_some h (by have:=hO.len;omega)
 have hglt:=bks_lt hc (by have:=hO.len;omega)
 obtain ⟨n,hnn⟩:∃ n,n=l.length:=⟨_,rfl⟩
 have hlen:=hO.len
 rw [←hnn] at hlen ⊢
 have HN:=hid hnn
 have HC:=hid hc
 have HO:=hid hO
 clear hnn hc h hO
 go_enter Tryz.func33,Tryz.ntmps33
 go_wp2
 go_loopg [2,3,4] n (fun m so sw i wr=>∃ (k S:Nat) (T:Int),k≤n∧n - k≤m∧i=.int .i64 k∧so=.int .i64 S∧sw=.int .i64 T∧S=sumL ((l.take k).map Bk.op)∧T=ownS (l.take k)∧Below w.heap.size w wr)
 case atStart=>exact ⟨0,0,0,by omega,by omega,rfl,rfl,rfl,rfl,rfl,Below.refl _ _⟩
 case round =>
  obtain ⟨k,S,T,hk,hm,rfl,rfl,rfl,hS,hT,hbl⟩:=hrel
  have HB0:=hid hbl
  clear hbl
  by_cases hlt:k<n
  ·obtain ⟨x,hx⟩:∃ x,l[k]?=some x:=⟨l[k]'(by rw [←HN.out];exact hlt),by simp [←HN.out,hlt]⟩
   obtain ⟨c0,c1,c2,c3,c4⟩:=(HC.out k x hx).below HB0.out
   have hox:=HO.out.all x (List.mem_of_getElem? hx)
   have hSb:S≤4000000000000000:=by
    have h1:=sumL_le (l:=(l.take k).map Bk.op) (c:=1000000000000000) (fun x hx=>by
     obtain ⟨b,hb,rfl⟩:=List.mem_map.1 hx
     exact (HO.out.all b (List.mem_of_mem_take hb)).op_le)
    rw [←hS] at h1
    have h2:((l.take k).map Bk.op).length*1000000000000000≤4*1000000000000000:=Nat.mul_le_mul_right _ (by simp;omega)
    omega
   have hTb:-4000000000000000≤T∧T≤4000000000000000:=by
    have h1:=ownS_bd (l:=l.take k) (fun b hb=>HO.out.all b (List.mem_of_mem_take hb)) _ rfl
    rw [←hT] at h1
    have h2:(l.take k).length≤4:=by simp;omega
    omega
   have hop:=hox.op_eq
   have hopl:=hox.op_le
   have b3:=hox.net
   have b4:=hox.flows
   have b6:=hox.own
   have HST:=hid (show S+x.op=sumL ((l.take (k+1)).map Bk.op)∧T+x.own=ownS (l.take (k+1)) by
    refine ⟨?_,by rw [hT,ownS_take hx]⟩
    rw [hS,List.map_take,List.map_take,sumL_take_snoc (x:=x.op) (by rw [List.getElem?_map,hx];rfl)])
   obtain ⟨z,hz⟩:∃ z,z=x.op:=⟨_,rfl⟩
   rw [←hz] at hop hopl HST
   have w5:IntKind.i64.wrap (x.net+x.flows)=(z:Int):=by rw [IntWalk.i64_in _ (by omega)];exact hop
   have w6:IntKind.i64.wrap ((S:Int)+(z:Int))=((S+z:Nat):Int):=by rw [IntWalk.i64_in _ (by omega)];omega
   have w7:IntKind.i64.wrap (T+x.own)=T+x.own:=IntWalk.i64_in _ (by omega)
   clear hx hox hz hS hT c0 c4
   go_upto_region 4 with fail
   go_quiet (fail)
   go_wp2
   go_roundg (gk - 1)
   case measure=>omega
   case rel=>exact ⟨k+1,S+z,T+x.own,by omega,by omega,by go_num,rfl,rfl,HST.out.1,HST.out.2,below_drewN HB0.out _⟩
  ·have hk2:k=n:=by omega
   have e:l.take k=l:=by rw [List.take_of_length_le];rw [←HN.out];omega
   rw [e] at hS hT
   subst hS hT
   go_wp2
   go_ret2
   exact ⟨rfl,HB0.out⟩
end Go.Proofs.YtmcekgapelanhaaGreat
