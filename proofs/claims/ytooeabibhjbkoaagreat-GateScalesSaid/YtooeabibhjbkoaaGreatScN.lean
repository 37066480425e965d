import Derived.Test.YtooeabibhjbkoaaGreatGmA
import Derived.Test.YtooeabibhjbkoaaGreatApA
set_option linter.unusedVariables false
set_option linter.unusedSimpArgs false
set_option maxHeartbeats 1000000
namespace Go.Proofs.YtooeabibhjbkoaaGreat
open Go.RowKit Reg
open Lib (hid)
theorem IsRow.tp {w:World} {a:Option Addr} {len cap:Nat} {z:List Int} (h:IsRow .i64 w a len cap z) (hcap:len≤9223372036854775807) (T:TypeId):IsTp (w.alloc (.cells #[.slice a len cap,.int .i64 0] T)) w.heap.size:=by
 have c0:(w.alloc (.cells #[.slice a len cap,.int .i64 0] T)).cell? ⟨w.heap.size,0,none⟩=some (.slice a len cap):=by go_cell
 have c1:(w.alloc (.cells #[.slice a len cap,.int .i64 0] T)).cell? ⟨w.heap.size,1,none⟩=some (.int .i64 ((0:Nat):Int)):=by go_cell
 have hz:∀ o,(w.alloc (.cells #[.slice a len cap,.int .i64 0] T)).frozen? ⟨w.heap.size,o,none⟩=false:=fun o=>by simp
 rcases h with ⟨rfl,rfl,rfl,rfl⟩|⟨x,rfl,h1,h2,h3,h4,h5⟩
 ·exact ⟨0,_,_,_,Nat.le_refl _,c0,c1,hz,by omega,fun j hj=>absurd hj (by omega)⟩
 ·refine ⟨0,_,_,_,Nat.zero_le _,c0,c1,hz,hcap,fun j hj=>?_⟩
  have hc:=h4 j (by omega)
  obtain ⟨b,off,spot⟩:=x
  have h0:=h4 0 (by omega)
  have hspot:spot=none:=by simpa [Addr.add] using World.cell?_spot h0
  subst hspot
  rw [quI] at hc
  have hlt:b<w.heap.size:=World.block_lt_of_cell? w _ hc
  exact ⟨b,off,_,rfl,by omega,qgV hc _⟩
theorem qyK {w:World} {a:Option Addr} {len cap:Nat} {z:List Int} (h:IsRow .i64 w a len cap z):len≤maxLen:=by
 rcases h with ⟨_,rfl,_,_⟩|⟨x,_,h1,h2,_⟩
 ·exact Nat.zero_le _
 ·omega
theorem qyT (a:Option Addr) (len cap:Nat) (z:List Int) (w:World) (h:IsRow .i64 w a len cap z) (hl:len≤9223372036854775807) :
  Calls Tryz.prog 13 #[.slice a len cap] w fun e w'=>e=.returned (.pointer (some ⟨w.heap.size,0,none⟩))∧IsTp w' w.heap.size∧Below w.heap.size w w':=by
 have HT:=hid (h.tp hl 81)
 clear h
 go_enter Tryz.func13,Tryz.ntmps13
 go_wp2
 go_ret
 exact ⟨rfl,HT.out,(Below.refl _ _).alloc (Nat.le_refl _) _⟩
end Go.Proofs.YtooeabibhjbkoaaGreat
