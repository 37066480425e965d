/- register.Holders: the units of each name gathered in a map: walked. -/
import Derived.Test.YthhmpdjjfoplgaaRegU
set_option linter.unusedVariables false
set_option linter.unusedSimpArgs false
namespace Go.Proofs.Ythhmpdjjfoplgaa
open Go.RowKit Reg Go.Maps

theorem Try.lawS : Keyed Try.prog 9 := string_keyed Try.underlying9
theorem Try.zeroI (w : World) : (zeroValue 3).run Try.prog w = .ok (.int .i64 0) w := by kernel_rfl
/-- the call's own map, in block b, holds the units of each name of these lots -/
def UnitsAt (w : World) (b n : Nat) (l : List Lot) : Prop := ∃ D : DataW Unit, w.ownsMap Try.prog 9 (plainElem Try.prog 3) b n D ∧ MapIs D l
theorem keyS_of (s : ByteArray) (h : s.size ≤ maxLen) : keyOf Try.prog 9 (.string s) = some (keyS s) := by
  have := WideMaps.keyOf_string_mk (P := Try.prog) Try.underlying9 h
  exact this
theorem run_units {b n : Nat} {l : List Lot} {w : World} (s : ByteArray) (hs : s.size ≤ maxLen) (h : UnitsAt w b n l) : (Instr.lookup 78 (.map (some b)) (.string s) false).run Try.prog w = .ok (.int .i64 (tot l s)) w := by
  obtain ⟨D, hown, hD⟩ := h
  obtain ⟨c, hrun, hat, hwc⟩ := hown.lookup_int Try.lawS Try.underlying78 Try.underlying3 (Try.zeroI _) (keyS_of s hs)
  rw [(hD.2 s).1] at hat
  simp only [DataW.lit.injEq, Lit.int.injEq, true_and] at hat
  subst hat
  exact hrun
theorem run_store_units {b n k : Nat} {l : List Lot} {w : World} (y : Lot) (c : Int) (hs : (nameOf y).size ≤ maxLen)
    (hn : n < maxLen) (h : UnitsAt w b n (l.take k)) (hy : l[k]? = some y) (hc : c = tot (l.take k) (nameOf y) + y.units) (hwf : (Lit.int .i64 c).wf = true) :
    ∃ w', (Instr.mapUpdate 78 (.map (some b)) (.string (nameOf y)) (.int .i64 c)).run Try.prog w = .ok () w' ∧ UnitsAt w' b (n + 1) (l.take (k + 1)) ∧ w.grownBy w' (some b) := by
  obtain ⟨D, hown, hD⟩ := h
  obtain ⟨w', hrun, r1, r2⟩ := hown.update Try.lawS Try.underlying78 hn (keyS_of _ hs) (plainElem_int Try.underlying3 hwf)
  exact ⟨w', hrun, ⟨_, r1, by rw [hc]; exact hD.step hy⟩, r2⟩
end Go.Proofs.Ythhmpdjjfoplgaa
