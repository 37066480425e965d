import Derived.Test.YtooeabibhjbkoaaGreatBiX
import Derived.Test.YtooeabibhjbkoaaGreatApA
import Derived.Test.YtooeabibhjbkoaaGreatAlA
import Derived.Test.YtooeabibhjbkoaaGreatProg
import Derived.Test.YtooeabibhjbkoaaGreatRegQ
import Derived.WalkKit
import Derived.Lib.Hide
import Derived.Deep.LoopGhost
import Derived.Deep.Light
import Derived.WalkSpells
import Derived.WalkLawsBesides
import Derived.Deep.RegionWith
import Derived.Deep.RegionHeld3
import Derived.Deep.CutRange
import Derived.StillTailTactics
import Derived.Handy
import Derived.BigQuiet
import Derived.Test.YtooeabibhjbkoaaGreatNmA
set_option linter.unusedVariables false
set_option linter.unusedSimpArgs false
namespace Go.Proofs.YtooeabibhjbkoaaGreat
open Go.RowKit
theorem Rd.alloc {w:World} {size:Nat} {v:Value} {n:Nat} {xs:List Value} (h:Rd w size v n xs) (o:Obj):Rd (w.alloc o) size v n xs:=h.below ((Below.refl _ _).alloc (Nat.le_refl _) _)
theorem Rd.drewN {w:World} {size:Nat} {v:Value} {n:Nat} {xs:List Value} (h:Rd w size v n xs) (k:Nat):Rd (w.drewN k) size v n xs:=h
instance:Inhabited GB:=⟨⟨0,#[]⟩⟩
end Go.Proofs.YtooeabibhjbkoaaGreat
set_option maxHeartbeats 1000000
namespace Go.Proofs.YtooeabibhjbkoaaGreat
open Go.RowKit Reg
open Lib (hid)
namespace Reg
def ltrI (n:Int):Bool:=decide (97≤n)&&decide (n≤122)
def namI (n:Int):Bool:=(decide (97≤n)&&decide (n≤122)) || (decide (48≤n)&&decide (n≤57))
def namesFrom (s:ByteArray) (j:Nat):Bool:=(s.data.toList.drop j).all fun c=>namI c.toNat
def firstB (s:ByteArray):Bool:=ltrI ((s.data.toList.headD 0).toNat)
def nameB (s:ByteArray):Bool:=decide (0<s.size)&&decide (s.size≤16)&&firstB s&&namesFrom s 0
theorem drop_cons (s:ByteArray) (k:Nat) (h:k<s.size):s.data.toList.drop k=s[k]::s.data.toList.drop (k+1):=by
 rw [List.drop_eq_getElem_cons (by simpa using h)];rfl
theorem qoS (s:ByteArray):s.data.toList.length=s.size:=by rw [Array.length_toList];rfl
theorem qnI {s:ByteArray} (h:s.size=0):s=⟨#[]⟩:=ByteArray.ext (Array.ext' (by simpa using List.eq_nil_of_length_eq_zero ((qoS s).trans h)))
theorem qtP {s:ByteArray} (h:0<s.size):s.data.toList≠[]:=fun e=>by have:=qoS s;rw [e] at this;simp at this;omega
theorem qnO {s:ByteArray} (h:0<s.size):(s.toList==ByteArray.toList ⟨#[]⟩)=false∧s.toList.isEmpty=false:=by
 refine ⟨?_,?_⟩
 ·rw [beq_eq_false_iff_ne,tl,tl];exact qtP h
 ·rw [tl];have:=qtP h;cases hh:s.data.toList with
  | nil=>exact absurd hh this
  | cons a l=>rfl
theorem names_go (s:ByteArray) (j:Nat) (h:j<s.size):namesFrom s j=(namI s[j].toNat&&namesFrom s (j+1)):=by
 unfold namesFrom;rw [drop_cons s j h];rfl
theorem names_end (s:ByteArray) (j:Nat) (h:¬j<s.size):namesFrom s j=true:=by
 unfold namesFrom;rw [List.drop_eq_nil_of_le (by simp;omega)];rfl
theorem namI_no {n:Int} (h:(n<97∨122<n)∧(n<48∨57<n)):namI n=false:=by
 cases hh:namI n
 ·rfl
 ·simp only [namI,Bool.or_eq_true,Bool.and_eq_true,decide_eq_true_eq] at hh;omega
theorem qoX (s:ByteArray) (h:0<s.size):firstB s=ltrI s[0].toNat:=by
 unfold firstB
 have:=drop_cons s 0 h
 rw [List.drop_zero] at this
 rw [this];rfl
end Reg
theorem qjZ (n:Int) (w:World) :
  Calls Tryz.prog 91 #[.int .i32 n] w fun e w'=>e=.returned (.bool (!namI n))∧w=w':=by
 go_enter Tryz.func91,Tryz.ntmps91
 go_wp2
 all_goals go_ret
 all_goals refine ⟨qaI ?_,rfl⟩
 all_goals simp only [namI]
 all_goals (rw [Bool.eq_iff_iff];simp<;>omega)
theorem qjQ (s:ByteArray) (w:World) (hs:s.size≤16) :
  Calls Tryz.prog 150 #[.string s,.func (.func 91) #[] #[],.bool true] w fun e w'=>(∃ k:Int,e=.returned (.int .i64 k)∧(decide (0≤k)=!namesFrom s 0))∧Below w.heap.size w w':=by
 have HF:Hid (namesFrom s 0=namesFrom s 0):=rfl
 go_enter Tryz.func150,Tryz.ntmps150
 go_wp2
 go_loopg [] (s.size) (fun n wr=>∃ k:Nat,k≤s.size∧s.size - k≤n∧wr=w.iter s k∧namesFrom s k=namesFrom s 0)
 case atStart=>exact ⟨0,Nat.zero_le _,Nat.le_refl _,rfl,rfl⟩
 case round =>
  obtain ⟨k,hk,hn,rfl,hr⟩:=hrel
  by_cases hlt:k<s.size
  ·rw [names_go s k hlt] at hr
   have HR:=hid hr
   clear hr
   by_cases ha:s[k].toNat<128
   ·have hnx:=fun ty=>run_next_ascii (P:=Tryz.prog) w s k ty hlt ha
    cases hx:namI s[k].toNat with
    | true =>
     have HX:=hid hx
     have HB:=fun W=>qjZ (s[k].toNat) W
     simp only [hx,Bool.not_true] at HB
     have HB:=hid HB
     clear hx
     go_wp2_with (go_at_call 91;refine (HB.out _).mono ?_;rintro e w' ⟨rfl,rfl⟩)
     go_roundg (gk - 1)
     case measure=>omega
     case rel=>exact ⟨k+1,by omega,by omega,rfl,by rw [←HR.out,HX.out];simp⟩
    | false =>
     have HX:=hid hx
     have HB:=fun W=>qjZ (s[k].toNat) W
     simp only [hx,Bool.not_false] at HB
     have HB:=hid HB
     clear hx
     go_wp2_with (go_at_call 91;refine (HB.out _).mono ?_;rintro e w' ⟨rfl,rfl⟩)
     go_ret
     exact ⟨⟨k,rfl,by rw [←HR.out,HX.out];simp⟩,qgW _ _ _⟩
   ·have hnx:=fun ty=>run_next_any (P:=Tryz.prog) w s k ty hlt
    have hd:=(decode_high s k hlt (by omega)).1
    have HN:=hid (show namI s[k].toNat=false from namI_no (by omega))
    generalize Utf8.decode s k=D at hnx hd
    have HB:=fun W=>qjZ (D.1:Int) W
    rw [namI_no (by omega)] at HB
    simp only [Bool.not_false] at HB
    have HB:=hid HB
    go_wp2_with (go_at_call 91;refine (HB.out _).mono ?_;rintro e w' ⟨rfl,rfl⟩)
    go_ret
    exact ⟨⟨k,rfl,by rw [←HR.out,HN.out];simp⟩,qgW _ _ _⟩
  ·have hnx:=fun ty=>run_next_end (P:=Tryz.prog) w s k ty hlt
   rw [names_end s k hlt] at hr
   have HR:=hid hr
   clear hr
   go_wp2
   go_ret
   exact ⟨⟨-1,rfl,by rw [←HR.out];rfl⟩,qgW _ _ _⟩
theorem qhF (s:ByteArray) (w:World) (hs:s.size≤16) :
  Calls Tryz.prog 90 #[.string s,.func (.func 91) #[] #[]] w fun e w'=>e=.returned (.bool (!namesFrom s 0))∧Below w.heap.size w w':=by
 have HI:∀ W:World,Calls Tryz.prog 126 #[.string s,.func (.func 91) #[] #[]] W fun e w'=>(∃ k:Int,e=.returned (.int .i64 k)∧(decide (0≤k)=!namesFrom s 0))∧Below W.heap.size W w':=by
  intro W
  go_enter Tryz.func126,Tryz.ntmps126
  go_wp2_with (go_at_call 150;refine (qjQ s _ hs).mono ?_;rintro e w' ⟨⟨k,rfl,hk⟩,hb⟩;have HK:=hid hk;have HB:=hid hb;clear hk hb)
  go_ret
  exact ⟨⟨k,rfl,HK.out⟩,HB.out⟩
 have HH:=hid HI
 clear HI
 go_enter Tryz.func90,Tryz.ntmps90
 go_wp2_with (go_at_call 126;refine (HH.out _).mono ?_;rintro e w' ⟨⟨k,rfl,hk⟩,hb⟩;have HK:=hid hk;have HB:=hid hb;clear hk hb)
 go_ret
 exact ⟨qaI HK.out,HB.out⟩
theorem qsF (s:ByteArray) (w:World) :
  Calls Tryz.prog 56 #[.string s] w fun e w'=>e=.returned (.bool (nameB s))∧Below w.heap.size w w':=by
 have hF:=nameB.eq_1 s
 by_cases h0:0<s.size
 ·obtain ⟨z0,z0'⟩:=qnO h0
  by_cases h1:s.size≤16
  ·have z1:¬(16:Int)<s.size:=by omega
   have hd:=qoX s h0
   cases h2:ltrI s[0].toNat with
   | false =>
    have HF:=hid (show nameB s=false by rw [hF,hd,h2];simp)
    have h3:(s[0].toNat:Int)<97∨(¬(s[0].toNat:Int)<97∧122<(s[0].toNat:Int)):=by
     simp only [ltrI,Bool.and_eq_false_iff,decide_eq_false_iff_not] at h2;omega
    clear hF hd h2
    rcases h3 with h3|⟨h3,h4⟩
    all_goals
     go_enter Tryz.func56,Tryz.ntmps56
     go_wp2
     go_ret
     exact ⟨qaI HF.out.symm,Below.refl _ _⟩
   | true =>
    have HF:=hid (show nameB s=namesFrom s 0 by rw [hF,hd,h2];simp [h0,h1])
    have h3:¬(s[0].toNat:Int)<97∧¬122<(s[0].toNat:Int):=by
     simp only [ltrI,Bool.and_eq_true,decide_eq_true_eq] at h2;omega
    clear hF hd h2
    obtain ⟨h3,h4⟩:=h3
    go_enter Tryz.func56,Tryz.ntmps56
    go_wp2_with (go_at_call 90;refine (qhF _ _ h1).mono ?_;rintro e w' ⟨rfl,hb⟩;have HB:=hid hb;clear hb)
    go_ret
    exact ⟨qaI HF.out.symm,HB.out⟩
  ·have z1:(16:Int)<s.size:=by omega
   have HF:=hid (show nameB s=false by rw [hF];simp [h1])
   clear hF
   go_enter Tryz.func56,Tryz.ntmps56
   go_wp2
   go_ret
   exact ⟨qaI HF.out.symm,Below.refl _ _⟩
 ·have hz:s=⟨#[]⟩:=qnI (by omega)
  subst hz
  have HF:=hid (show nameB ⟨#[]⟩=false by rw [hF];simp [h0])
  clear hF
  go_enter Tryz.func56,Tryz.ntmps56
  go_wp2
  go_ret
  exact ⟨qaI HF.out.symm,Below.refl _ _⟩
set_option maxHeartbeats 2000000
theorem qrO (s:ByteArray) (w:World) :
    Calls Tryz.prog 70 #[.string s] w fun e w'=>e=.returned (.bool (nameB s))∧∃ n,w'=w.drewN n:=by
  have hF:=nameB.eq_1 s
  by_cases h0:0<s.size
  · have z0:¬(s.size:Int)<1:=by omega
    by_cases h1:s.size≤16
    · have z1:¬(16:Int)<s.size:=by omega
      have hd:=qoX s h0
      have HF:=hid (show nameB s=(firstB s&&namesFrom s 0) by rw [hF];simp [h0,h1])
      have HD:=hid hd
      clear hF hd
      go_enter Tryz.func70,Tryz.ntmps70
      go_wp2
      go_loopg [3] (s.size) (fun n i wr=>∃ k d:Nat,k≤s.size∧s.size - k≤n∧wr=w.drewN d∧i=.int .i64 k∧namesFrom s k=namesFrom s 0∧(0<k→firstB s=true))
      case atStart=>exact ⟨0,0,Nat.zero_le _,Nat.le_refl _,rfl,rfl,rfl,fun h=>absurd h (by omega)⟩
      case round =>
        obtain ⟨k,d,hk,hn,rfl,rfl,hr,hf⟩:=hrel
        have HFS:=hid hf
        clear hf
        by_cases hlt:k<s.size
        · rw [names_go s k hlt] at hr
          have HR:=hid hr
          clear hr
          have hi1:(0:Int)≤k:=by omega
          have hi2:(k:Int)<s.size:=by omega
          obtain ⟨c,hc⟩:∃ c:Int,c=s[k].toNat:=⟨_,rfl⟩
          have HC:=hid hc
          have h3:decide (97≤c)=false∨(decide (97≤c)=true∧decide (c≤122)=false)∨(decide (97≤c)=true∧decide (c≤122)=true):=by
            simp only [decide_eq_true_eq,decide_eq_false_iff_not];omega
          have h4:decide (48≤c)=false∨(decide (48≤c)=true∧decide (c≤57)=false)∨(decide (48≤c)=true∧decide (c≤57)=true):=by
            simp only [decide_eq_true_eq,decide_eq_false_iff_not];omega
          have hc':=hc.symm
          clear hc
          have hL:ltrI c=(decide (97≤c)&&decide (c≤122)):=rfl
          have hN:namI c=((decide (97≤c)&&decide (c≤122)) || (decide (48≤c)&&decide (c≤57))):=rfl
          have hfk:0<s.size→k=0→firstB s=ltrI c:=fun h e=>by subst e;rw [HD.out,HC.out]
          by_cases hk0:k=0
          · have hk0':((k:Int)==0)=true:=beq_iff_eq.2 (by omega)
            have hfk:=hfk h0 hk0
            rcases h3 with e1|⟨e1,e2⟩|⟨e1,e2⟩<;>rcases h4 with e3|⟨e3,e4⟩|⟨e3,e4⟩
            all_goals
              simp only [*,Bool.false_and,Bool.true_and,Bool.and_false,Bool.and_true,Bool.or_false,Bool.false_or,Bool.or_true,Bool.true_or] at hL hN
              rw [hL] at hfk
              have HN:=hid hN
              have HK:=hid hfk
              have H0:=hid hk0
              clear hN hfk hL hk0
              go_wp2
              go_quiet (fail)
              go_wp2
              first
                | (go_ret;exact ⟨qaI (by rw [HF.out,HK.out];rfl),_,rfl⟩)
                | (go_roundg (gk - 1)
                   case measure=>omega
                   case rel=>exact ⟨k+1,_,by omega,by omega,rfl,by go_num,by rw [←HR.out,←HC.out,HN.out];rfl,fun _=>HK.out⟩)
          · have hk0':((k:Int)==0)=false:=beq_eq_false_iff_ne.2 (by omega)
            clear hfk
            rcases h3 with e1|⟨e1,e2⟩|⟨e1,e2⟩<;>rcases h4 with e3|⟨e3,e4⟩|⟨e3,e4⟩
            all_goals
              simp only [*,Bool.false_and,Bool.true_and,Bool.and_false,Bool.and_true,Bool.or_false,Bool.false_or,Bool.or_true,Bool.true_or] at hL hN
              have HN:=hid hN
              clear hN hL
              go_wp2
              go_quiet (fail)
              go_wp2
              first
                | (go_ret;exact ⟨qaI (by rw [HF.out,←HR.out,←HC.out,HN.out];simp),_,rfl⟩)
                | (go_roundg (gk - 1)
                   case measure=>omega
                   case rel=>exact ⟨k+1,_,by omega,by omega,rfl,by go_num,by rw [←HR.out,←HC.out,HN.out];rfl,fun _=>HFS.out (by omega)⟩)
        · rw [names_end s k hlt] at hr
          have HR:=hid hr
          clear hr
          go_wp2
          go_ret
          exact ⟨qaI (by rw [HF.out,←HR.out,HFS.out (by omega)];rfl),_,rfl⟩
    · have z1:(16:Int)<s.size:=by omega
      have HF:=hid (show nameB s=false by rw [hF];simp [h1])
      clear hF
      go_enter Tryz.func70,Tryz.ntmps70
      go_wp2
      go_ret
      exact ⟨qaI HF.out.symm,0,rfl⟩
  · have z0:(s.size:Int)<1:=by omega
    have HF:=hid (show nameB s=false by rw [hF];simp [h0])
    clear hF
    go_enter Tryz.func70,Tryz.ntmps70
    go_wp2
    go_ret
    exact ⟨qaI HF.out.symm,0,rfl⟩
namespace Reg
end Reg
theorem qeN {B:Nat} {a w:World} (h:Below B a w) (n:Nat):Below B a (w.drewN n):=⟨h.os,h.tape,h.output,h.size,h.block⟩
theorem qpR (s:ByteArray) (w:World) :
    Calls Tryz.prog 70 #[.string s] w fun e w'=>e=.returned (.bool (nameB s))∧Below w.heap.size w w' :=
  (qrO s w).mono fun _ _ ⟨he,n,hn⟩=>⟨he,by rw [hn];exact qeN (Below.refl _ _) n⟩
end Go.Proofs.YtooeabibhjbkoaaGreat
