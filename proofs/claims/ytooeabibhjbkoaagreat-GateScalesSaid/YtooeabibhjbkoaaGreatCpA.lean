import Derived.Test.YtooeabibhjbkoaaGreatApI
set_option linter.unusedVariables false
set_option linter.unusedSimpArgs false
set_option maxRecDepth 100000
set_option maxHeartbeats 4000000
namespace Go.Proofs.YtooeabibhjbkoaaGreat
open Go.RowKit Ap
open Lib (hid)
theorem qpY (ws:List Nat) (hpos:0<sumL ws):Parts (sumL ws) ws ws:=by
 have hq:∀ i,quo (sumL ws) ws i=ws.getD i 0:=fun i=>by unfold quo;rw [Nat.mul_div_cancel_left _ hpos]
 have hr:∀ i,Ap.rest (sumL ws) ws i=0:=fun i=>by unfold Ap.rest;rw [Nat.mul_mod_right]
 have hm:miss (sumL ws) ws=0:=by
  have h:=(qfH (sumL ws) ws hpos).2
  rw [show (List.range ws.length).map (Ap.rest (sumL ws) ws)=(List.range ws.length).map (fun _=>0) from List.map_congr_left fun i _=>hr i] at h
  have h0:sumL ((List.range ws.length).map fun _=>0)=0:=by
   rw [qeQ (l:=(List.range ws.length).map fun _=>0) (c:=0) (fun x hx=>by obtain ⟨_,_,rfl⟩:=List.mem_map.1 hx;rfl),Nat.mul_zero]
  rw [h0] at h
  rcases Nat.mul_eq_zero.1 h with h|h
  ·exact h
  ·omega
 refine ⟨List.range ws.length,List.Perm.refl _,?_,rfl,fun i hi=>by rw [hq,hm];simp⟩
 refine List.pairwise_lt_range.imp fun h=>.inr ⟨by rw [hr,hr],h⟩
theorem qwQ (T n:Nat) (ws p:List Nat) (v:Value) (w:World) (h:Valid w v n ws) (hpos:0<sumL ws) (hT:T≤1000000000000000) (hp:(sumL ws≤T∧p=ws)∨(T<sumL ws∧Parts T ws p)) :
  Calls Tryz.prog 41 #[.int .i64 (T:Int),v] w (OutR n (p.map Int.ofNat) w):=by
 have hsb:=h.sum
 obtain ⟨s,hs⟩:∃ s,s=sumL ws:=⟨_,rfl⟩
 have HCK:=hid (qmP n ws v w h)
 have HF:=hid (fun W=>qxS (T:Int) W (by omega) (by omega))
 obtain ⟨M,hM⟩:∃ M,M=min T s:=⟨_,rfl⟩
 have hpm:Parts M ws p:=by
  rcases hp with ⟨h1,rfl⟩|⟨h1,h2⟩
  ·rw [hM,hs,Nat.min_eq_right h1];exact qpY p hpos
  ·rw [hM,hs,Nat.min_eq_left (by omega)];exact h2
 have HD:=hid (qnQ M s n ws p v w h.reads h.len h.pos h.small hs (by rw [hs];exact hpos) (by rw [hs];omega) (by omega) hpm)
 rw [←hs] at HCK hsb
 have hs0:((s:Int)==0)=false:=beq_eq_false_iff_ne.2 (by omega)
 have hmin:min (T:Int) (s:Int)=(M:Int):=by omega
 have q1:¬(T:Int)<0:=by omega
 have h1:=h.pos
 have h2:=h.small
 clear h hpos hs hp hpm hM
 go_enter Tryz.func41,Tryz.ntmps41
 go_wp2_with fail
 refine HCK.out.mono ?_
 rintro e w' ⟨rfl,rfl⟩
 go_wp2_with fail
 refine (HF.out _).mono ?_
 rintro e w' ⟨rfl,rfl⟩
 go_wp2_with fail
 refine HD.out.mono ?_
 rintro e w' ⟨g,h1,h2,rfl,h4,h5⟩
 have HH:=hid (And.intro h1 (And.intro h2 (And.intro h4 h5)))
 clear h1 h2 h4 h5
 go_wp2
 go_ret2
 exact ⟨g,HH.out.1,HH.out.2.1,rfl,HH.out.2.2.1,HH.out.2.2.2⟩
end Go.Proofs.YtooeabibhjbkoaaGreat
