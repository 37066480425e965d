import Derived.Test.YtooeabibhjbkoaaGreatGmA
import Derived.Test.YtooeabibhjbkoaaGreatApA
import Derived.StillTailTactics
set_option linter.unusedVariables false
set_option linter.unusedSimpArgs false
set_option maxRecDepth 100000
namespace Go.Proofs.YtooeabibhjbkoaaGreat
open Go.RowKit Reg Al Ga
namespace Ga
def fz (l:List Int) (n:Nat):List Int:=l++List.replicate (n - l.length) 0
theorem fz_nil (n:Nat):fz [] n=List.replicate n 0:=by simp [fz]
theorem fz_len (l:List Int) (n:Nat) (h:l.length≤n):(fz l n).length=n:=by simp [fz];omega
theorem fz_full (l:List Int):fz l l.length=l:=by simp [fz]
theorem fz_at (l:List Int) (n:Nat) (h:l.length<n):(fz l n)[l.length]?=some 0:=by
 unfold fz
 rw [List.getElem?_append_right (Nat.le_refl _),List.getElem?_replicate,if_pos (by omega)]
theorem fz_get (l:List Int) (n k:Nat) (h:k<l.length):(fz l n)[k]?=l[k]?:=by
 unfold fz
 rw [List.getElem?_append_left h]
theorem fz_set (l:List Int) (n:Nat) (x:Int) (h:l.length<n):(fz l n).set l.length x=fz (l++[x]) n:=by
 unfold fz
 obtain ⟨m,hm⟩:∃ m,n - l.length=m+1:=⟨n - l.length - 1,by omega⟩
 rw [hm,List.replicate_succ,List.set_append_right _ _ (Nat.le_refl _),Nat.sub_self,List.set_cons_zero,List.length_append,List.length_singleton,show n - (l.length+1)=m by omega,List.append_assoc]
 rfl
end Ga
end Go.Proofs.YtooeabibhjbkoaaGreat
set_option maxHeartbeats 1000000
namespace Go.Proofs.YtooeabibhjbkoaaGreat
open Go.RowKit Reg
open Lib (hid)
theorem IsRow.tp {w:World} {a:Option Addr} {len cap:Nat} {z:List Int} (h:IsRow .i64 w a len cap z) (hcap:len≤9223372036854775807) (T:TypeId):IsTp (w.alloc (.cells #[.slice a len cap,.int .i64 0] T)) w.heap.size:=by
 have c0:(w.alloc (.cells #[.slice a len cap,.int .i64 0] T)).cell? ⟨w.heap.size,0,none⟩=some (.slice a len cap):=by go_cell
 have c1:(w.alloc (.cells #[.slice a len cap,.int .i64 0] T)).cell? ⟨w.heap.size,1,none⟩=some (.int .i64 ((0:Nat):Int)):=by go_cell
 have hz:∀ o,(w.alloc (.cells #[.slice a len cap,.int .i64 0] T)).frozen? ⟨w.heap.size,o,none⟩=false:=fun o=>by simp
 rcases h with ⟨rfl,rfl,rfl,rfl⟩|⟨x,rfl,h1,h2,h3,h4,h5⟩
 ·exact ⟨0,_,_,_,Nat.le_refl _,c0,c1,hz,by omega,fun j hj=>absurd hj (by omega)⟩
 ·refine ⟨0,_,_,_,Nat.zero_le _,c0,c1,hz,hcap,fun j hj=>?_⟩
  have hc:=h4 j (by omega)
  obtain ⟨b,off,spot⟩:=x
  have h0:=h4 0 (by omega)
  have hspot:spot=none:=by simpa [Addr.add] using World.cell?_spot h0
  subst hspot
  rw [addLit0] at hc
  have hlt:b<w.heap.size:=World.block_lt_of_cell? w _ hc
  exact ⟨b,off,_,rfl,by omega,cell_alloc hc _⟩
theorem row_len {w:World} {a:Option Addr} {len cap:Nat} {z:List Int} (h:IsRow .i64 w a len cap z):len≤maxLen:=by
 rcases h with ⟨_,rfl,_,_⟩|⟨x,_,h1,h2,_⟩
 ·exact Nat.zero_le _
 ·omega
theorem new_any (a:Option Addr) (len cap:Nat) (z:List Int) (w:World) (h:IsRow .i64 w a len cap z) (hl:len≤9223372036854775807) :
  Calls Tryz.prog 13 #[.slice a len cap] w fun e w'=>e=.returned (.pointer (some ⟨w.heap.size,0,none⟩))∧IsTp w' w.heap.size∧Below w.heap.size w w':=by
 have HT:=hid (h.tp hl 81)
 clear h
 go_enter Tryz.func13,Tryz.ntmps13
 go_wp2
 go_ret
 exact ⟨rfl,HT.out,(Below.refl _ _).alloc (Nat.le_refl _) _⟩
end Go.Proofs.YtooeabibhjbkoaaGreat
set_option maxHeartbeats 4000000
namespace Go.Proofs.YtooeabibhjbkoaaGreat
open Go.RowKit Reg Al Ga
open Lib (hid)
theorem owithin_any (n most:Int) (b:Bool) (h:inR n 1 most=b) (w:World) :
  Calls Tryz.prog 82 #[.int .i64 n,.int .i64 most] w fun e w'=>e=.returned (.bool b)∧w=w':=by
 subst h
 go_enter Tryz.func82,Tryz.ntmps82
 by_cases h1:1≤n
 ·by_cases h2:n≤most
  ·go_wp2
   go_ret
   exact ⟨ret_bool (by rw [Bool.eq_iff_iff];simp [inR]<;>omega),rfl⟩
  ·go_wp2
   go_ret
   exact ⟨ret_bool (by rw [Bool.eq_iff_iff];simp [inR]<;>omega),rfl⟩
 ·go_wp2
  go_ret
  exact ⟨ret_bool (by rw [Bool.eq_iff_iff];simp [inR]<;>omega),rfl⟩
theorem oasked_any (o:Od) (b:Bool) (h:askO o=b) (w:World):Calls Tryz.prog 84 #[.agg #[.string o.key,.string o.nom,.string o.hol,.string o.fund,.string o.cls,.int .i64 o.kind,.int .i64 o.amount,.int .i64 o.units,.int .i64 o.at_,.int .i64 o.known,.bool o.void]] w fun e w'=>e=.returned (.bool b)∧Below w.heap.size w w':=by
 obtain ⟨key,nom,hol,fund,cls,K,a,u,at_,known,void⟩:=o
 subst h
 have HF:=hid (askO.eq_1 ⟨key,nom,hol,fund,cls,K,a,u,at_,known,void⟩)
 simp only at HF ⊢
 by_cases k1:K=1
 ·subst k1
  cases r1:inR a 1 1000000000000000 with
  | false =>
   go_enter Tryz.func84,Tryz.ntmps84
   go_wp2_with (go_at_call 82;refine (owithin_any _ _ _ (by assumption) _).mono ?_;rintro e w' ⟨rfl,rfl⟩)
   go_ret
   exact ⟨ret_bool (by rw [HF.out];simp [r1]),(Below.refl _ _).alloc (Nat.le_refl _) _⟩
  | true =>
   by_cases z0:u=0
   ·subst z0
    go_enter Tryz.func84,Tryz.ntmps84
    go_wp2_with (go_at_call 82;refine (owithin_any _ _ _ (by assumption) _).mono ?_;rintro e w' ⟨rfl,rfl⟩)
    go_ret
    exact ⟨ret_bool (by rw [HF.out];simp [r1]),(Below.refl _ _).alloc (Nat.le_refl _) _⟩
   ·have y0:(u==0)=false:=beq_eq_false_iff_ne.2 z0
    go_enter Tryz.func84,Tryz.ntmps84
    go_wp2_with (go_at_call 82;refine (owithin_any _ _ _ (by assumption) _).mono ?_;rintro e w' ⟨rfl,rfl⟩)
    go_ret
    exact ⟨ret_bool (by rw [HF.out];simp [r1,z0]),(Below.refl _ _).alloc (Nat.le_refl _) _⟩
 have j1:(K==1)=false:=beq_eq_false_iff_ne.2 k1
 by_cases k4:K=4
 ·subst k4
  cases r1:inR a 1 1000000000000000 with
  | false =>
   go_enter Tryz.func84,Tryz.ntmps84
   go_wp2_with (go_at_call 82;refine (owithin_any _ _ _ (by assumption) _).mono ?_;rintro e w' ⟨rfl,rfl⟩)
   go_ret
   exact ⟨ret_bool (by rw [HF.out];simp [k1,r1]),(Below.refl _ _).alloc (Nat.le_refl _) _⟩
  | true =>
   by_cases z0:u=0
   ·subst z0
    go_enter Tryz.func84,Tryz.ntmps84
    go_wp2_with (go_at_call 82;refine (owithin_any _ _ _ (by assumption) _).mono ?_;rintro e w' ⟨rfl,rfl⟩)
    go_ret
    exact ⟨ret_bool (by rw [HF.out];simp [k1,r1]),(Below.refl _ _).alloc (Nat.le_refl _) _⟩
   ·have y0:(u==0)=false:=beq_eq_false_iff_ne.2 z0
    go_enter Tryz.func84,Tryz.ntmps84
    go_wp2_with (go_at_call 82;refine (owithin_any _ _ _ (by assumption) _).mono ?_;rintro e w' ⟨rfl,rfl⟩)
    go_ret
    exact ⟨ret_bool (by rw [HF.out];simp [k1,r1,z0]),(Below.refl _ _).alloc (Nat.le_refl _) _⟩
 have j4:(K==4)=false:=beq_eq_false_iff_ne.2 k4
 by_cases k2:K=2
 ·subst k2
  cases r1:inR u 1 1000000000000000 with
  | false =>
   go_enter Tryz.func84,Tryz.ntmps84
   go_wp2_with (go_at_call 82;refine (owithin_any _ _ _ (by assumption) _).mono ?_;rintro e w' ⟨rfl,rfl⟩)
   go_ret
   exact ⟨ret_bool (by rw [HF.out];simp [k1,k4,r1]),(Below.refl _ _).alloc (Nat.le_refl _) _⟩
  | true =>
   by_cases z0:a=0
   ·subst z0
    go_enter Tryz.func84,Tryz.ntmps84
    go_wp2_with (go_at_call 82;refine (owithin_any _ _ _ (by assumption) _).mono ?_;rintro e w' ⟨rfl,rfl⟩)
    go_ret
    exact ⟨ret_bool (by rw [HF.out];simp [k1,k4,r1]),(Below.refl _ _).alloc (Nat.le_refl _) _⟩
   ·have y0:(a==0)=false:=beq_eq_false_iff_ne.2 z0
    go_enter Tryz.func84,Tryz.ntmps84
    go_wp2_with (go_at_call 82;refine (owithin_any _ _ _ (by assumption) _).mono ?_;rintro e w' ⟨rfl,rfl⟩)
    go_ret
    exact ⟨ret_bool (by rw [HF.out];simp [k1,k4,r1,z0]),(Below.refl _ _).alloc (Nat.le_refl _) _⟩
 have j2:(K==2)=false:=beq_eq_false_iff_ne.2 k2
 by_cases k3:K=3
 ·subst k3
  cases r1:inR u 1 1000000000000000 with
  | false =>
   go_enter Tryz.func84,Tryz.ntmps84
   go_wp2_with (go_at_call 82;refine (owithin_any _ _ _ (by assumption) _).mono ?_;rintro e w' ⟨rfl,rfl⟩)
   go_ret
   exact ⟨ret_bool (by rw [HF.out];simp [k1,k4,k2,r1]),(Below.refl _ _).alloc (Nat.le_refl _) _⟩
  | true =>
   by_cases z0:a=0
   ·subst z0
    go_enter Tryz.func84,Tryz.ntmps84
    go_wp2_with (go_at_call 82;refine (owithin_any _ _ _ (by assumption) _).mono ?_;rintro e w' ⟨rfl,rfl⟩)
    go_ret
    exact ⟨ret_bool (by rw [HF.out];simp [k1,k4,k2,r1]),(Below.refl _ _).alloc (Nat.le_refl _) _⟩
   ·have y0:(a==0)=false:=beq_eq_false_iff_ne.2 z0
    go_enter Tryz.func84,Tryz.ntmps84
    go_wp2_with (go_at_call 82;refine (owithin_any _ _ _ (by assumption) _).mono ?_;rintro e w' ⟨rfl,rfl⟩)
    go_ret
    exact ⟨ret_bool (by rw [HF.out];simp [k1,k4,k2,r1,z0]),(Below.refl _ _).alloc (Nat.le_refl _) _⟩
 have j3:(K==3)=false:=beq_eq_false_iff_ne.2 k3
 by_cases k5:K=5
 ·subst k5
  by_cases z0:a=0
  ·subst z0
   by_cases z1:u=0
   ·subst z1
    go_enter Tryz.func84,Tryz.ntmps84
    go_wp2_with (go_at_call 82;refine (owithin_any _ _ _ (by assumption) _).mono ?_;rintro e w' ⟨rfl,rfl⟩)
    go_ret
    exact ⟨ret_bool (by rw [HF.out];simp [k1,k4,k2,k3]),(Below.refl _ _).alloc (Nat.le_refl _) _⟩
   ·have y1:(u==0)=false:=beq_eq_false_iff_ne.2 z1
    go_enter Tryz.func84,Tryz.ntmps84
    go_wp2_with (go_at_call 82;refine (owithin_any _ _ _ (by assumption) _).mono ?_;rintro e w' ⟨rfl,rfl⟩)
    go_ret
    exact ⟨ret_bool (by rw [HF.out];simp [k1,k4,k2,k3,z1]),(Below.refl _ _).alloc (Nat.le_refl _) _⟩
  ·have y0:(a==0)=false:=beq_eq_false_iff_ne.2 z0
   go_enter Tryz.func84,Tryz.ntmps84
   go_wp2_with (go_at_call 82;refine (owithin_any _ _ _ (by assumption) _).mono ?_;rintro e w' ⟨rfl,rfl⟩)
   go_ret
   exact ⟨ret_bool (by rw [HF.out];simp [k1,k4,k2,k3,z0]),(Below.refl _ _).alloc (Nat.le_refl _) _⟩
 have j5:(K==5)=false:=beq_eq_false_iff_ne.2 k5
 go_enter Tryz.func84,Tryz.ntmps84
 go_wp2_with (go_at_call 82;refine (owithin_any _ _ _ (by assumption) _).mono ?_;rintro e w' ⟨rfl,rfl⟩)
 go_ret
 exact ⟨ret_bool (by rw [HF.out];simp [k1,k4,k2,k3,k5]),(Below.refl _ _).alloc (Nat.le_refl _) _⟩
end Go.Proofs.YtooeabibhjbkoaaGreat
