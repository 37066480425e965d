import Derived.Test.YtnkmhbiklffjlaaApA
import Derived.Deep.MidRow
set_option linter.unusedVariables false
set_option linter.unusedSimpArgs false
set_option maxRecDepth 100000
set_option maxHeartbeats 2000000
namespace Go.Proofs.Ytnkmhbiklffjlaa
open Go.RowKit
open Lib (hid)
namespace Big
def cells (M:List Nat):List Value:=M.map (fun (x:Nat)=>Value.int .u32 (x:Int))
def magV (M:List Nat):Value:=.agg (cells M).toArray
def intV (neg:Bool) (M:List Nat):Value:=.agg (Value.bool neg::cells M).toArray
def Mag (M:List Nat):Prop:=M.length=32∧∀ x∈M,x<4294967296
def limK (M:List Nat):Nat→Nat
 | 0=>0
 | k+1=>if M.getD k 0=0 then limK M k else k+1
def limbsN (M:List Nat):Nat:=limK M 32
def val:List Nat→Nat
 | []=>0
 | x::M=>x+4294967296*val M
theorem cells_get {M:List Nat} {k:Nat} (h:k<M.length):(cells M)[k]?=some (.int .u32 (M.getD k 0:Nat)):=by
 unfold cells;simp [List.getD,h]
end Big
open Big
theorem limbs_any (M:List Nat) (w:World) (h:Mag M) :
  Calls Try.prog 46 #[magV M] w fun e w'=>e=.returned (.int .i64 (limbsN M:Nat))∧Below w.heap.size w w':=by
 have hlen:=h.1
 have HL:=hid hlen
 clear hlen h
 obtain ⟨vs,hvs⟩:∃ vs,vs=(cells M).toArray:=⟨_,rfl⟩
 have hcell:∀ k,k<32→(w.alloc (.cells vs 49)).cell? ⟨w.heap.size,k,none⟩=some (.int .u32 (M.getD k 0:Nat)):=by
  intro k hk
  rw [cell_of_row _ w.heap.size k _ 49 (0,0) (heap_alloc_new w _),hvs]
  have:=cells_get (M:=M) (k:=k) (by rw [HL.out];exact hk)
  simpa using this
 have HC:=hid hcell
 unfold magV
 rw [←hvs]
 clear hvs hcell
 go_enter Try.func46,Try.ntmps46
 go_wp2
 go_loopg [3] 32 (fun m nv wr=>∃ k:Nat,nv=.int .i64 k∧k≤32∧k≤m∧limK M k=limbsN M∧wr=w.alloc (.cells vs 49))
 case atStart=>exact ⟨32,rfl,by omega,by omega,rfl,rfl⟩
 case round =>
  obtain ⟨k,rfl,hk,hm,hlim,rfl⟩:=hrel
  have HK:=hid hlim
  clear hlim
  by_cases h0:k=0
  ·subst h0
   have HZ:=hid (show 0=limbsN M from HK.out)
   go_wp2
   go_ret
   exact ⟨ret_int (by rw [←HZ.out]),(Below.refl _ _).alloc (Nat.le_refl _) _⟩
  ·obtain ⟨j,hj⟩:∃ j,k=j+1:=⟨k - 1,by omega⟩
   obtain ⟨x,hx⟩:∃ x,x=M.getD j 0:=⟨_,rfl⟩
   have cj:(w.alloc (.cells vs 49)).cell? ⟨w.heap.size,j,none⟩=some (.int .u32 (x:Int)):=by rw [hx];exact HC.out j (by omega)
   have hj1:(k:Int) - 1=(j:Int):=by omega
   have hk0:(0:Int)<(k:Int):=by omega
   have hj32:j<32:=by omega
   have hwj:IntKind.i64.wrap (j:Int)=(j:Int):=IntWalk.i64_in _ (by omega)
   by_cases hz:x=0
   ·have hz':((x:Int)==0)=true:=by simp [hz]
    have HN:=hid (show limK M j=limbsN M by rw [←HK.out,hj,limK,←hx,if_pos hz])
    clear hj hx hz
    go_wp2
    go_roundg (gk - 1)
    case measure=>omega
    case rel=>exact ⟨j,by simp,by omega,by omega,HN.out,rfl⟩
   ·have hz':((x:Int)==0)=false:=beq_eq_false_iff_ne.2 (by omega)
    have HN:=hid (show k=limbsN M by rw [←HK.out,hj,limK,←hx,if_neg hz])
    clear hj hx hz
    go_wp2
    go_ret
    exact ⟨ret_int (by rw [←HN.out]),(Below.refl _ _).alloc (Nat.le_refl _) _⟩
theorem Try.infoM:(Try.prog.info? 49).map (·.size)=some 32:=by kernel_rfl
theorem range_new (w:World) (cs:List Value) (t:TypeId):(w.alloc (.cells cs.toArray t)).rangeAt w.heap.size 0 cs:=by
 intro j v hv
 rw [cell_of_row _ w.heap.size (0+j) _ t (0,0) (heap_alloc_new w _)]
 simpa using hv
theorem bzero_any (M:List Nat) (w:World) (h:Mag M) :
  Calls Try.prog 52 #[magV M] w fun e w'=>e=.returned (.bool (limbsN M==0))∧Below w.heap.size w w':=by
 obtain ⟨n,hn⟩:∃ n,n=limbsN M:=⟨_,rfl⟩
 have hM:=fun W=>limbs_any M W h
 rw [←hn] at hM ⊢
 have hl:(cells M).length=32:=by unfold cells;rw [List.length_map];exact h.1
 unfold magV at hM ⊢
 obtain ⟨cs,hcs⟩:∃ cs,cs=cells M:=⟨_,rfl⟩
 rw [←hcs] at hM hl ⊢
 have HM:=hid hM
 have hsz:(Try.prog.info? 49).map (·.size)=some cs.length:=by rw [hl];exact Try.infoM
 have HSZ:=hid hsz
 clear hcs hM hl hn h hsz
 go_enter Try.func52,Try.ntmps52
 go_wp2_with (first
  | (refine wpList_load_mid rfl _ _ rfl w.heap.size 0 rfl cs _ (range_new w cs _) Try.underlying49 rfl HSZ.out ?_)
  | (go_at_call 46;refine (HM.out _).mono ?_;rintro e w' ⟨rfl,hb⟩))
 go_ret
 refine ⟨ret_bool ?_,((Below.refl _ _).alloc (Nat.le_refl _) _).trans (hb.mono (by simp))⟩
 rw [Bool.eq_iff_iff];simp only [beq_iff_eq];omega
end Go.Proofs.Ytnkmhbiklffjlaa
