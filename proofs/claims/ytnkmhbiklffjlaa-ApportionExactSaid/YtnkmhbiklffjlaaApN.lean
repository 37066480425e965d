import Derived.Test.YtnkmhbiklffjlaaApI
import Derived.Laws.OwnMore
set_option linter.unusedVariables false
set_option linter.unusedSimpArgs false
set_option maxRecDepth 100000
namespace Go.Proofs.Ytnkmhbiklffjlaa
open Go.RowKit Ap
end Go.Proofs.Ytnkmhbiklffjlaa
set_option maxHeartbeats 4000000
namespace Go.Proofs.Ytnkmhbiklffjlaa
open Go.RowKit Ap
open Lib (hid)
theorem reads_new (w:World) (xs:List Value) (n:Nat) (t:TypeId) (hl:xs.length=n) (hn:n≤1000000):Reads (w.alloc (.cells xs.toArray t)) 1 (.slice (some ⟨w.heap.size,0,none⟩) n n) n xs:=by
 refine ⟨by omega,by omega,.inr ⟨w.heap.size,0,n,rfl,fun j u hu=>?_⟩⟩
 have:=cells_new w xs t j u hu
 have hadd:(⟨w.heap.size,0,none⟩:Addr).add j=⟨w.heap.size,0+j,none⟩:=by unfold Addr.add;split<;>simp_all
 rwa [hadd] at this
namespace Ap
theorem parts1:Parts 100 [1,1,1] [34,33,33]:=by
 refine ⟨[0,1,2],List.Perm.refl _,?_,rfl,?_⟩
 ·simp [R,rest,sumL]
 ·intro i hi
  match i,hi with
  | 0,_=>rfl
  | 1,_=>rfl
  | 2,_=>rfl
theorem parts2:Parts 5 [4,4] [3,2]:=by
 refine ⟨[0,1],List.Perm.refl _,?_,rfl,?_⟩
 ·simp [R,rest,sumL]
 ·intro i hi
  match i,hi with
  | 0,_=>rfl
  | 1,_=>rfl
theorem spread3:spreadL 1 3 0 0 [1,1,1]=[0,1,0]:=by rfl
end Ap
theorem splitc (w:World) (t:TypeId) :
  Calls Try.prog 10 #[.int .i64 (-100),.slice (some ⟨w.heap.size,0,none⟩) 3 3] (w.alloc (.cells #[.int .i64 1,.int .i64 1,.int .i64 1] t)) fun e w'=>∃ g,e=.returned (.tuple #[.slice (some ⟨g,0,none⟩) 3 3,.int .i64 0])∧Reads w' 1 (.slice (some ⟨g,0,none⟩) 3 3) 3 ([-34,-33,-33].map (Value.int .i64))∧Below w.heap.size w w':=by
 have hr:=reads_new w (cellsN [1,1,1]) 3 t rfl (by omega)
 have hv:Valid (w.alloc (.cells (cellsN [1,1,1]).toArray t)) (.slice (some ⟨w.heap.size,0,none⟩) 3 3) 3 [1,1,1]:=⟨hr,rfl,by omega,by omega,by decide⟩
 refine (split_any (-100) 3 [1,1,1] _ _ hv (by decide) (by decide) (by decide)).mono ?_
 rintro e w' ⟨g,l,h1,h2,rfl,⟨p,hp,rfl⟩,h5,h6⟩
 have hpe:=parts_unique hp parts1
 subst hpe
 exact ⟨g,rfl,reads_row h5 rfl (by omega),((Below.refl _ _).alloc (Nat.le_refl _) _).trans (h6.mono (by simp))⟩
theorem capc (w:World) (t:TypeId) :
  Calls Try.prog 11 #[.int .i64 5,.slice (some ⟨w.heap.size,0,none⟩) 2 2] (w.alloc (.cells #[.int .i64 4,.int .i64 4] t)) fun e w'=>∃ v,e=.returned (.tuple #[v,.int .i64 0])∧Reads w' 1 v 2 ([3,2].map (Value.int .i64))∧Below w.heap.size w w':=by
 have hr:=reads_new w (cellsN [4,4]) 2 t rfl (by omega)
 have hv:Valid (w.alloc (.cells (cellsN [4,4]).toArray t)) (.slice (some ⟨w.heap.size,0,none⟩) 2 2) 2 [4,4]:=⟨hr,rfl,by omega,by omega,by decide⟩
 refine (cap_any 5 2 [4,4] _ _ hv (by decide)).mono ?_
 rintro e w' ⟨v,p,rfl,h2,h3,h4,h5⟩
 rcases h5 with ⟨h5,_⟩|⟨_,h5⟩
 ·exact absurd h5 (by decide)
 ·have hpe:=parts_unique h5 parts2
  subst hpe
  exact ⟨v,rfl,h2,((Below.refl _ _).alloc (Nat.le_refl _) _).trans (h3.mono (by simp))⟩
theorem spreadc (w:World) (t:TypeId) :
  Calls Try.prog 12 #[.int .i64 1,.slice (some ⟨w.heap.size,0,none⟩) 3 3] (w.alloc (.cells #[.int .i64 1,.int .i64 1,.int .i64 1] t)) fun e w'=>∃ g,e=.returned (.tuple #[.slice (some ⟨g,0,none⟩) 3 3,.int .i64 0])∧Reads w' 1 (.slice (some ⟨g,0,none⟩) 3 3) 3 ([0,1,0].map (Value.int .i64))∧Below w.heap.size w w':=by
 have hr:=reads_new w (cellsN [1,1,1]) 3 t rfl (by omega)
 have hv:Valid (w.alloc (.cells (cellsN [1,1,1]).toArray t)) (.slice (some ⟨w.heap.size,0,none⟩) 3 3) 3 [1,1,1]:=⟨hr,rfl,by omega,by omega,by decide⟩
 refine (spread_any 1 3 [1,1,1] _ _ hv (by decide) (by decide) (by decide)).mono ?_
 rintro e w' ⟨g,l,h1,h2,rfl,h4,h5,h6⟩
 have hl:l=[0,1,0]:=by
  have h4':l=spreadL 1 3 0 0 [1,1,1]:=h4
  rw [h4',spread3]
 subst hl
 exact ⟨g,rfl,reads_row h5 rfl (by omega),((Below.refl _ _).alloc (Nat.le_refl _) _).trans (h6.mono (by simp))⟩
theorem samec (n:Nat) (l:List Int) (va:Value) (w:World) (t:TypeId) (hl:l.length=n) (hn:n≤1000000) (ha:Reads w 1 va n (l.map (Value.int .i64))) :
  Calls Try.prog 17 #[va,.slice (some ⟨w.heap.size,0,none⟩) n n] (w.alloc (.cells (l.map (Value.int .i64)).toArray t)) fun e w'=>e=.returned (.bool true)∧Below w.heap.size w w':=by
 refine (sameints_eq n l va _ _ (ha.below ((Below.refl _ _).alloc (Nat.le_refl _) _)) (reads_new w (l.map (Value.int .i64)) n t (by simpa using hl) hn) hn).mono ?_
 rintro e w' ⟨rfl,q,rfl⟩
 exact ⟨rfl,below_drewN ((Below.refl _ _).alloc (Nat.le_refl _) _) _⟩
theorem known_any (w:World):Calls Try.prog 13 #[] w fun e w'=>e=.returned (.bool true)∧Below w.heap.size w w':=by
 go_enter Try.func13,Try.ntmps13
 go_wp2_with fail
 refine (splitc _ _).mono ?_
 rintro e w1 ⟨g1,rfl,hr1,hb1⟩
 have HR1:=hid (And.intro hr1 hb1)
 clear hr1 hb1
 go_wp2_with fail
 refine (capc _ _).mono ?_
 rintro e w2 ⟨v2,rfl,hr2,hb2⟩
 have HR2:=hid (And.intro hr2 hb2)
 clear hr2 hb2
 go_wp2_with fail
 refine (spreadc _ _).mono ?_
 rintro e w3 ⟨g3,rfl,hr3,hb3⟩
 have HR3:=hid (And.intro hr3 hb3)
 clear hr3 hb3
 go_wp2_with fail
 refine (samec 3 [-34,-33,-33] _ _ _ rfl (by omega) ((HR1.out.1.below HR2.out.2).below HR3.out.2)).mono ?_
 rintro e w4 ⟨rfl,hb4⟩
 have HR4:=hid hb4
 clear hb4
 go_wp2_with fail
 refine (samec 2 [3,2] _ _ _ rfl (by omega) ((HR2.out.1.below HR3.out.2).below HR4.out)).mono ?_
 rintro e w5 ⟨rfl,hb5⟩
 have HR5:=hid hb5
 clear hb5
 go_wp2_with fail
 refine (samec 3 [0,1,0] _ _ _ rfl (by omega) ((HR3.out.1.below HR4.out).below HR5.out)).mono ?_
 rintro e w6 ⟨rfl,hb6⟩
 have HR6:=hid hb6
 clear hb6
 go_wp2
 go_ret
 have s1:=HR1.out.2
 have s2:=s1.trans (HR2.out.2.mono s1.size)
 have s3:=s2.trans (HR3.out.2.mono s2.size)
 have s4:=s3.trans (HR4.out.mono s3.size)
 have s5:=s4.trans (HR5.out.mono s4.size)
 exact ⟨rfl,s5.trans (HR6.out.mono s5.size)⟩
end Go.Proofs.Ytnkmhbiklffjlaa
namespace Go.Proofs.Ytnkmhbiklffjlaa
open Go.RowKit Ap
end Go.Proofs.Ytnkmhbiklffjlaa
namespace Go.Proofs.Ytnkmhbiklffjlaa
open Go.RowKit Ap
theorem reads_cellsZ {w:World} {v:Value} {n:Nat} {ws:List Nat} (h:Reads w 1 v n (cellsN ws)):Reads w 1 v n ((ws.map Int.ofNat).map (Value.int .i64)):=by
 unfold cellsN at h;rw [List.map_map];exact h
end Go.Proofs.Ytnkmhbiklffjlaa
namespace Go.Proofs.Ytnkmhbiklffjlaa
open Go.RowKit Ap
end Go.Proofs.Ytnkmhbiklffjlaa
