import Derived.Test.YtmcekgapelanhaaGreatNmA
set_option linter.unusedVariables false
set_option linter.unusedSimpArgs false
set_option maxHeartbeats 1000000
namespace Go.Proofs.YtmcekgapelanhaaGreat
open Go.RowKit Tok
open Lib (hid)
theorem usable_any (s:ByteArray) (w:World) :
    Calls Tryz.prog 83 #[.string s] w fun e w'=>e=.returned (.bool (nameB s))∧w=w':=by
  have hF:=nameB.eq_1 s
  by_cases h0:0<s.size
  · have z0:¬(s.size:Int)<1:=by omega
    by_cases h1:s.size≤16
    · have z1:¬(16:Int)<s.size:=by omega
      have hd:=dig_is s 0 h0
      cases h2:digAt s 0 with
      | true =>
        rw [h2] at hd
        simp only [digI,Bool.and_eq_true,decide_eq_true_eq] at hd
        have HF:=hid (show nameB s=false by rw [hF,h2];simp)
        clear hF
        obtain ⟨d1,d2⟩:=hd
        go_enter Tryz.func83,Tryz.ntmps83
        go_wp2
        go_ret
        exact ⟨ret_bool HF.out.symm,rfl⟩
      | false =>
        rw [h2] at hd
        have hd:(s[0].toNat:Int)<48∨(48≤(s[0].toNat:Int)∧57<(s[0].toNat:Int)):=by
          simp only [digI,Bool.and_eq_false_iff,decide_eq_false_iff_not] at hd;omega
        have HF:=hid (show nameB s=namesFrom s 0 by rw [hF,h2];simp [h0,h1])
        clear hF
        go_enter Tryz.func83,Tryz.ntmps83
        rcases hd with d1|⟨d1,d2⟩
        all_goals
          go_wp2
          go_loopg [3] (s.size) (fun n i wr=>∃ k:Nat,k≤s.size∧s.size - k≤n∧wr=w∧i=.int .i64 k∧namesFrom s k=nameB s)
          case atStart=>exact ⟨0,Nat.zero_le _,Nat.le_refl _,rfl,rfl,HF.out.symm⟩
          case round =>
            obtain ⟨k,hk,hn,rfl,rfl,hr⟩:=hrel
            by_cases hlt:k<s.size
            · rw [names_go s k hlt] at hr
              have HR:=hid hr
              clear hr
              go_wp2
              all_goals first
                | (go_ret;exact ⟨ret_bool (by rw [←HR.out,namI_no (by go_light;omega)];rfl),rfl⟩)
                | (go_roundg (gk - 1)
                   case measure=>omega
                   case rel=>exact ⟨k+1,by omega,by omega,rfl,by go_num,by rw [←HR.out,namI_yes (by go_light;omega)];simp⟩)
            · rw [names_end s k hlt] at hr
              have HR:=hid hr
              clear hr
              go_wp2
              go_ret
              exact ⟨ret_bool HR.out,rfl⟩
    · have z1:(16:Int)<s.size:=by omega
      have HF:=hid (show nameB s=false by rw [hF];simp [h1])
      clear hF
      go_enter Tryz.func83,Tryz.ntmps83
      go_wp2
      go_ret
      exact ⟨ret_bool HF.out.symm,rfl⟩
  · have z0:(s.size:Int)<1:=by omega
    have HF:=hid (show nameB s=false by rw [hF];simp [h0])
    clear hF
    go_enter Tryz.func83,Tryz.ntmps83
    go_wp2
    go_ret
    exact ⟨ret_bool HF.out.symm,rfl⟩
theorem rname_any (s:ByteArray) (w:World) :
    Calls Tryz.prog 47 #[.string s] w fun e w'=>e=.returned (.bool (nameB s))∧w=w':=by
  go_enter Tryz.func47,Tryz.ntmps47
  go_wp2_with (go_at_call 83;refine (usable_any _ _).mono ?_;rintro e w' ⟨rfl,rfl⟩)
  go_ret
  exact ⟨rfl,rfl⟩
end Go.Proofs.YtmcekgapelanhaaGreat
