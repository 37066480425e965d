import Derived.Test.YtemoddmadfoaiaaGreatScN
import Derived.Lib.Strings
import Derived.Lib.Slices
import Derived.Lib.Small
import Derived.Lib.Walk
import Derived.Lib.BitFns
import Derived.Lib.Mul64
import Derived.Laws.Bits64b
set_option linter.unusedVariables false
set_option linter.unusedSimpArgs false
namespace Go.Proofs.YtemoddmadfoaiaaGreat
open Go.RowKit
namespace Ap
theorem bitLen_aux:∀ (f x:Nat),x<2^f→x<2^Lib.bitLenAux f x∧(x≠0→1≤Lib.bitLenAux f x∧2^(Lib.bitLenAux f x - 1)≤x):=by
 intro f
 induction f with
 | zero=>intro x h;simp at h;subst h;simp [Lib.bitLenAux]
 | succ f ih =>
  intro x h;rw [Nat.pow_succ] at h;simp only [Lib.bitLenAux];by_cases h0:x=0
  ·simp [h0]
  ·rw [if_neg h0];obtain ⟨h1,h2⟩:=ih (x / 2) (by omega);refine ⟨by rw [Nat.add_comm,Nat.pow_succ];omega,fun _=>⟨by omega,?_⟩⟩;rw [Nat.add_sub_cancel_left];by_cases h3:x / 2=0
   ·have:Lib.bitLenAux f (x / 2)=0:=by rw [h3];cases f<;>simp [Lib.bitLenAux]
    rw [this];simp;omega
   ·obtain ⟨k1,k2⟩:=h2 h3;obtain ⟨m,hm⟩:∃ m,Lib.bitLenAux f (x / 2)=m+1:=⟨Lib.bitLenAux f (x / 2) - 1,by omega⟩;rw [hm] at k2 ⊢;rw [Nat.pow_succ];simp at k2;omega
theorem len8_get (n:Nat) (h:n<Lib.len8tab.size):(Lib.len8tab[n]'h).toNat=Lib.bitLen n:=by
 have h2:n<256:=by rw [←Lib.len8tab_size];exact h
 have e:=Lib.len8_eq ⟨n,h2⟩;unfold Lib.len8 at e;simp only [Int.toNat_natCast,ByteArray.getElem?_lt' _ _ h,Option.getD_some] at e
 exact_mod_cast e
theorem len_8 (b:Int) (h0:0≤b) (h1:b<256):Lib.bitLen b.toNat≤8:=Lib.bitLen_le8' b h0 (by omega)
theorem len_fin (c b B:Nat) (hb:b≤8) (hc:c≤56) (e:B=c+b):wrap64 ((c:Int)+wrap64 (b:Int))=(B:Int):=by
 subst e;unfold wrap64;omega
theorem len_fin0 (b:Nat) (hb:b≤8):wrap64 (wrap64 (b:Int))=(b:Int):=by unfold wrap64;omega
theorem len_at (x:Int) (h0:0≤x) (h1:x≤18446744073709551615) (y:Int) (c:Nat) (hy:y=x / (2^c:Nat)) (hpos:0<y) (hc:c≤56):Lib.bitLen x.toNat=c+Lib.bitLen y.toNat:=by
 obtain ⟨n,rfl⟩:=Int.eq_ofNat_of_zero_le h0;have e:y=((n / 2^c:Nat):Int):=by rw [hy];exact (Int.natCast_ediv n (2^c)).symm
 subst e;simp only [Int.toNat_natCast];have hp:0<2^c:=Nat.two_pow_pos c
 have hge:2^c≤n:=by
  have h2:0<n / 2^c:=by omega
  exact (Nat.div_pos_iff.1 h2).2
 exact Lib.bitLen_shift c n hge (by omega)
end Ap
open Ap
end Go.Proofs.YtemoddmadfoaiaaGreat
