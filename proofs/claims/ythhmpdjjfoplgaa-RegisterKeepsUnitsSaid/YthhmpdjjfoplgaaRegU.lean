/- The map of register.Holders: what it reads as; cmp.Or at texts: walked. -/
import Derived.Test.YthhmpdjjfoplgaaRegV
import Derived.Maps.OwnOps
import Derived.Maps.RangeWalk
import Derived.Maps.Views
set_option linter.unusedVariables false
set_option linter.unusedSimpArgs false
namespace Go.Proofs.Ythhmpdjjfoplgaa
open Go.RowKit Reg Go.Maps

/-- a name as a key of a map -/
def keyS (s : ByteArray) : Lit := .string s.data.toList
theorem keyS_inj {a b : ByteArray} (h : keyS a = keyS b) : a = b := by
  unfold keyS at h
  injection h with h
  exact ByteArray.ext (Array.ext' h)
theorem keyS_lit (s : ByteArray) : WideAt.IsKeyLit (keyS s) := trivial
/-- the map reads as the units of each name -/
def MapIs (D : DataW Unit) (l : List Lot) : Prop := IsMap D ∧ ∀ s : ByteArray, D.atKey (keyS s) (.lit (.int .i64 0)) = .lit (.int .i64 (tot l s)) ∧ (has D (keyS s) = true ↔ named l s)
theorem MapIs.nil : MapIs (.map []) [] := ⟨isMap_empty, fun s => ⟨rfl, by simp [has, named]⟩⟩
theorem MapIs.step {D : DataW Unit} {l : List Lot} {k : Nat} {x : Lot} (h : MapIs D (l.take k)) (hx : l[k]? = some x) : MapIs (D.put (keyS (nameOf x)) (.lit (.int .i64 (tot (l.take k) (nameOf x) + x.units)))) (l.take (k + 1)) := by
  refine ⟨h.1.put _ _, fun s => ?_⟩
  rw [tot_snoc hx, named_snoc hx]
  by_cases e : nameOf x = s
  · subst e
    refine ⟨by rw [atKey_put_same h.1 (keyS_lit _)]; simp, ?_⟩
    rw [has_put_same h.1 (keyS_lit _)]; simp
  · have hne : keyS s ≠ keyS (nameOf x) := fun he => e (keyS_inj he).symm
    refine ⟨by rw [atKey_put_other hne, (h.2 s).1]; simp [e], ?_⟩
    rw [has_put_other hne, (h.2 s).2]; simp [e]

set_option maxHeartbeats 1000000 in
theorem or2_any (g : Nat) (a b : ByteArray) (w : World) (h0 : w.cell? ⟨g, 0, none⟩ = some (.string a)) (h1 : w.cell? ⟨g, 1, none⟩ = some (.string b)) :
    Calls Try.prog 51 #[.slice (some ⟨g, 0, none⟩) 2 2] w fun e w' => e = .returned (.string (if a.size = 0 then b else a)) ∧ w' = w := by
  by_cases ha : a.size = 0
  · have hz := nil_of_size ha
    have HR := Lib.hid (show (if a.size = 0 then b else a) = b from if_pos ha)
    rw [HR.out]
    clear ha
    subst hz
    by_cases hb : b.size = 0
    · have hz2 := nil_of_size hb
      subst hz2
      go_enter Try.func51, Try.ntmps51
      go_wp2
      refine wp_loop_rounds 3 ?_
      rw [rounds_succ]
      go_wp2
      rw [rounds_succ]
      go_wp2
      rw [rounds_succ]
      go_wp2
      go_ret
      exact ⟨rfl, rfl⟩
    · obtain ⟨z0, z0'⟩ := eq_empty_no (s := b) (by omega)
      go_enter Try.func51, Try.ntmps51
      go_wp2
      refine wp_loop_rounds 2 ?_
      rw [rounds_succ]
      go_wp2
      rw [rounds_succ]
      go_wp2
      go_ret
      exact ⟨rfl, rfl⟩
  · have HR := Lib.hid (show (if a.size = 0 then b else a) = a from if_neg ha)
    rw [HR.out]
    obtain ⟨z0, z0'⟩ := eq_empty_no (s := a) (by omega)
    go_enter Try.func51, Try.ntmps51
    go_wp2
    refine wp_loop_rounds 1 ?_
    rw [rounds_succ]
    go_wp2
    go_ret
    exact ⟨rfl, rfl⟩
end Go.Proofs.Ythhmpdjjfoplgaa
