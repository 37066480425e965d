import Derived.Test.YtnkmhbiklffjlaaApA
import Derived.Lib.Strings
import Derived.Lib.Slices
import Derived.Lib.Small
import Derived.Lib.Walk
import Derived.Lib.BitFns
import Derived.Lib.Mul64
import Derived.Laws.Bits64b
set_option linter.unusedVariables false
set_option linter.unusedSimpArgs false
set_option maxRecDepth 100000
set_option maxHeartbeats 4000000
namespace Go.Proofs.Ytnkmhbiklffjlaa
open Go.RowKit
namespace Ap
theorem maskN (a:Nat) (ha:a<18446744073709551616):bits .and .u64 (a:Int) 4294967295=((a%4294967296:Nat):Int):=by
 have h:=bits_and_u64_nat a 4294967295 ha (by omega)
 have e:a &&& 4294967295=a%4294967296:=Nat.and_two_pow_sub_one_eq_mod a 32
 rw [e] at h
 exact h
theorem divN (a:Nat):(a:Int) / 4294967296=((a / 4294967296:Nat):Int):=by omega
theorem mulN (a b:Nat):(a:Int)*(b:Int)=((a*b:Nat):Int):=(Int.natCast_mul a b).symm
theorem addN (a b:Nat):(a:Int)+(b:Int)=((a+b:Nat):Int):=(Int.natCast_add a b).symm
theorem wrapN (a:Nat) (ha:a<18446744073709551616):IntKind.u64.wrap (a:Int)=(a:Int):=by rw [IntKind.wrap_u64];omega
theorem wrapM (a:Nat):IntKind.u64.wrap (a:Int)=((a%18446744073709551616:Nat):Int):=by rw [IntKind.wrap_u64];omega
theorem bitLen_aux:∀ (f x:Nat),x<2^f→x<2^Lib.bitLenAux f x∧(x≠0→1≤Lib.bitLenAux f x∧2^(Lib.bitLenAux f x - 1)≤x):=by
 intro f
 induction f with
 | zero=>intro x h;simp at h;subst h;simp [Lib.bitLenAux]
 | succ f ih =>
  intro x h
  rw [Nat.pow_succ] at h
  simp only [Lib.bitLenAux]
  by_cases h0:x=0
  ·simp [h0]
  ·rw [if_neg h0]
   obtain ⟨h1,h2⟩:=ih (x / 2) (by omega)
   refine ⟨by rw [Nat.add_comm,Nat.pow_succ];omega,fun _=>⟨by omega,?_⟩⟩
   rw [Nat.add_sub_cancel_left]
   by_cases h3:x / 2=0
   ·have:Lib.bitLenAux f (x / 2)=0:=by rw [h3];cases f<;>simp [Lib.bitLenAux]
    rw [this];simp;omega
   ·obtain ⟨k1,k2⟩:=h2 h3
    obtain ⟨m,hm⟩:∃ m,Lib.bitLenAux f (x / 2)=m+1:=⟨Lib.bitLenAux f (x / 2) - 1,by omega⟩
    rw [hm] at k2 ⊢
    rw [Nat.pow_succ];simp at k2;omega
theorem shift_ok (y:Nat) (h0:0<y) (hy:y<18446744073709551616):9223372036854775808≤y*2^(64 - Lib.bitLen y)∧y*2^(64 - Lib.bitLen y)<18446744073709551616∧1≤Lib.bitLen y∧Lib.bitLen y≤64:=by
 obtain ⟨h1,h2⟩:=bitLen_aux 64 y hy
 obtain ⟨h3,h4⟩:=h2 (by omega)
 have h5:=Lib.bitLen_le y 64 (by omega) hy
 unfold Lib.bitLen at *
 have hp:0<2^(64 - Lib.bitLenAux 64 y):=Nat.two_pow_pos _
 refine ⟨?_,?_,h3,h5⟩
 ·have:=Nat.mul_le_mul_right (2^(64 - Lib.bitLenAux 64 y)) h4
  rw [←Nat.pow_add,show Lib.bitLenAux 64 y - 1+(64 - Lib.bitLenAux 64 y)=63 by omega] at this
  exact this
 ·have:=Nat.mul_lt_mul_of_pos_right h1 hp
  rw [←Nat.pow_add,show Lib.bitLenAux 64 y+(64 - Lib.bitLenAux 64 y)=64 by omega] at this
  exact this
theorem len8_get (n:Nat) (h:n<Lib.len8tab.size):(Lib.len8tab[n]'h).toNat=Lib.bitLen n:=by
 have h2:n<256:=by rw [←Lib.len8tab_size];exact h
 have e:=Lib.len8_eq ⟨n,h2⟩
 unfold Lib.len8 at e
 simp only [Int.toNat_natCast,ByteArray.getElem?_lt' _ _ h,Option.getD_some] at e
 exact_mod_cast e
theorem len_8 (b:Int) (h0:0≤b) (h1:b<256):Lib.bitLen b.toNat≤8:=Lib.bitLen_le8' b h0 (by omega)
theorem len_fin (c b B:Nat) (hb:b≤8) (hc:c≤56) (e:B=c+b):wrap64 ((c:Int)+wrap64 (b:Int))=(B:Int):=by
 subst e
 unfold wrap64
 omega
theorem len_fin0 (b:Nat) (hb:b≤8):wrap64 (wrap64 (b:Int))=(b:Int):=by unfold wrap64;omega
theorem len_at (x:Int) (h0:0≤x) (h1:x≤18446744073709551615) (y:Int) (c:Nat) (hy:y=x / (2^c:Nat)) (hpos:0<y) (hc:c≤56):Lib.bitLen x.toNat=c+Lib.bitLen y.toNat:=by
 obtain ⟨n,rfl⟩:=Int.eq_ofNat_of_zero_le h0
 have e:y=((n / 2^c:Nat):Int):=by rw [hy];exact (Int.natCast_ediv n (2^c)).symm
 subst e
 simp only [Int.toNat_natCast]
 have hp:0<2^c:=Nat.two_pow_pos c
 have hge:2^c≤n:=by
  have h2:0<n / 2^c:=by omega
  exact (Nat.div_pos_iff.1 h2).2
 exact Lib.bitLen_shift c n hge (by omega)
end Ap
open Ap
theorem mul64_any (x y:Nat) (hx:x<18446744073709551616) (hy:y<18446744073709551616) (w:World) :
  Calls Try.prog 43 #[.int .u64 x,.int .u64 y] w fun e w'=>e=.returned (.tuple #[.int .u64 ((x*y / 18446744073709551616:Nat):Int),.int .u64 ((x*y%18446744073709551616:Nat):Int)])∧w=w':=by
 obtain ⟨bd,bt,bw,hhi⟩:=Lib.mul64_hi x y hx hy
 have ba:=Lib.half_mul_le (a:=x / 4294967296) (b:=y / 4294967296) (by omega) (by omega)
 have bb:=Lib.half_mul_le (a:=x / 4294967296) (b:=y%4294967296) (by omega) (by omega)
 have bc:=Lib.half_mul_le (a:=x%4294967296) (b:=y / 4294967296) (by omega) (by omega)
 have ba':x / 4294967296*(y / 4294967296)<18446744073709551616:=by omega
 have bb':x / 4294967296*(y%4294967296)<18446744073709551616:=by omega
 have bc':x%4294967296*(y / 4294967296)<18446744073709551616:=by omega
 have bh1:x / 4294967296*(y / 4294967296)+(x / 4294967296*(y%4294967296)+x%4294967296*(y%4294967296) / 4294967296) / 4294967296<18446744073709551616:=by omega
 have bh:x / 4294967296*(y / 4294967296)+(x / 4294967296*(y%4294967296)+x%4294967296*(y%4294967296) / 4294967296) / 4294967296+((x / 4294967296*(y%4294967296)+x%4294967296*(y%4294967296) / 4294967296)%4294967296+x%4294967296*(y / 4294967296)) / 4294967296<18446744073709551616:=by omega
 go_enter Try.func43,Try.ntmps43
 go_wp2
 simp only [maskN x hx,maskN y hy,divN,mulN,addN,wrapN _ bd,wrapN _ bb',wrapN _ bt,maskN _ bt,wrapN _ bc',wrapN _ bw,wrapN _ ba',wrapN _ bh1,wrapN _ bh,wrapM (x*y)]
 rw [hhi]
 go_ret2
 exact ⟨rfl,rfl⟩
theorem len64_any (x:Int) (w:World) (h0:0≤x) (h1:x≤18446744073709551615) :
  Calls Try.prog 71 #[.int .u64 x] w fun e w'=>e=.returned (.int .i64 (Lib.bitLen x.toNat))∧w=w':=by
 go_enter Try.func71,Try.ntmps71
 go_wp2
 all_goals first
  | (exfalso;have hsz:=Lib.len8tab_size;omega)
  | (go_ret;refine ⟨congrArg Ending.returned (congrArg (Value.int IntKind.i64) ?_),rfl⟩)
 all_goals rw [len8_get]
 ·exact len_fin 56 _ _ (len_8 _ (by omega) (by omega)) (by decide) (len_at x h0 h1 _ 56 (by simp [Int.ediv_ediv]) (by omega) (by omega))
 ·exact len_fin 48 _ _ (len_8 _ (by omega) (by omega)) (by decide) (len_at x h0 h1 _ 48 (by simp [Int.ediv_ediv]) (by omega) (by omega))
 ·exact len_fin 40 _ _ (len_8 _ (by omega) (by omega)) (by decide) (len_at x h0 h1 _ 40 (by simp [Int.ediv_ediv]) (by omega) (by omega))
 ·exact len_fin 32 _ _ (len_8 _ (by omega) (by omega)) (by decide) (len_at x h0 h1 _ 32 (by simp [Int.ediv_ediv]) (by omega) (by omega))
 ·exact len_fin 24 _ _ (len_8 _ (by omega) (by omega)) (by decide) (len_at x h0 h1 _ 24 (by simp [Int.ediv_ediv]) (by omega) (by omega))
 ·exact len_fin 16 _ _ (len_8 _ (by omega) (by omega)) (by decide) (len_at x h0 h1 _ 16 (by simp [Int.ediv_ediv]) (by omega) (by omega))
 ·exact len_fin 8 _ _ (len_8 _ (by omega) (by omega)) (by decide) (len_at x h0 h1 _ 8 (by simp [Int.ediv_ediv]) (by omega) (by omega))
 ·exact len_fin0 _ (len_8 _ (by omega) (by omega))
theorem lz64_any (x:Nat) (w:World) (h1:x≤18446744073709551615) :
  Calls Try.prog 57 #[.int .u64 x] w fun e w'=>e=.returned (.int .i64 ((64 - Lib.bitLen x:Nat):Int))∧w=w':=by
 have l:=Lib.bitLen_le x 64 (by omega) (by omega)
 go_enter Try.func57,Try.ntmps57
 go_wp2_with (go_at_call 71;refine (len64_any _ _ (by omega) (by omega)).mono ?_;rintro e w' ⟨rfl,rfl⟩)
 go_ret
 refine ⟨ret_int ?_,rfl⟩
 first|omega|(simp only [Int.toNat_natCast,wrap64];omega)
theorem lz64_s (y:Nat) (w:World) (h0:0<y) (hy:y<9223372036854775808) :
  Calls Try.prog 57 #[.int .u64 y] w fun e w'=>∃ s:Nat,e=.returned (.int .i64 s)∧1≤s∧s≤63∧9223372036854775808≤y*2^s∧y*2^s<18446744073709551616∧w=w':=by
 obtain ⟨s1,s2,s3,s4⟩:=shift_ok y h0 (by omega)
 refine (lz64_any y w (by omega)).mono ?_
 rintro e w' ⟨rfl,rfl⟩
 refine ⟨64 - Lib.bitLen y,rfl,?_,by omega,s1,s2,rfl⟩
 rcases Nat.lt_or_ge (Lib.bitLen y) 64 with h|h
 ·omega
 ·exfalso
  have:Lib.bitLen y=64:=by omega
  rw [this] at s1
  simp at s1;omega
end Go.Proofs.Ytnkmhbiklffjlaa
