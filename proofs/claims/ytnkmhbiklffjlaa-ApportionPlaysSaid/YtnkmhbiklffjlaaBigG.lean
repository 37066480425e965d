/- A region that draws its order and only reads, whose callees may lay blocks of their own, with loads of whole arrays in it. Nothing here is about one function of the program. -/
import Derived.Test.YtnkmhbiklffjlaaBigY
set_option linter.unusedVariables false
set_option linter.unusedSimpArgs false
namespace Go.Proofs.Ytnkmhbiklffjlaa
open Go.RowKit
theorem below_drew {B : Nat} {w w' : World} (h : Below B w w') : Below B w w'.drew := ⟨h.os, h.tape, h.output, h.size, h.block⟩
/-! ### A region that draws its order and only reads, whose callees may lay blocks of their own -/
/-- w with these blocks behind it, and so many draws -/
def gw (w : World) (d : Nat) (os : Array Obj) : World := { w with heap := w.heap ++ os, drawn := d }
structure GB where
  d : Nat
  os : Array Obj
instance : Inhabited GB := ⟨⟨0, #[]⟩⟩
theorem below_gw (w : World) (d : Nat) (os : Array Obj) : Below w.heap.size w (gw w d os) :=
  ⟨rfl, rfl, rfl, by simp [gw], fun k hk => by simp [gw, Array.getElem?_append, hk]⟩
theorem gw_of_below {w w' : World} (h : Below w.heap.size w w') : ∃ p : GB, w' = gw w p.d p.os := by
  refine ⟨⟨w'.drawn, w'.heap.extract w.heap.size w'.heap.size⟩, ?_⟩
  have hh : w'.heap = w.heap ++ w'.heap.extract w.heap.size w'.heap.size := by
    apply Array.ext_getElem?
    intro k
    by_cases hk : k < w.heap.size
    · rw [h.block k hk]; simp [Array.getElem?_append, hk]
    · rw [Array.getElem?_append_right (by omega), Array.getElem?_extract]
      by_cases hk2 : k < w'.heap.size
      · rw [if_pos (by omega)]; congr 1; omega
      · rw [if_neg (by omega)]; simp; omega
  obtain ⟨heap, tape, drawn, os, output⟩ := w'
  have h1 := h.tape; have h2 := h.os; have h3 := h.output
  simp only [gw] at *
  subst h1 h2 h3
  rw [← hh]
theorem cell_gw {w : World} {a : Addr} {v : Value} (h : w.cell? a = some v) (d : Nat) (os : Array Obj) : (gw w d os).cell? a = some v := cell_up h (below_gw w d os)
theorem wp_region_below {P : Program} {id : Nat} {Q : Exit → Act → World → Prop} {a : Act} {w : World} {l : List Oper} (hm : P.follows .mixedOrders = true) (hB : Region.lexB .any l.toArray = true)
    (h : wpQuiet P l.toArray (fun w' => ∃ p : GB, w' = gw w p.d p.os) (fun a' => ∀ w', (∃ p : GB, w' = gw w p.d p.os) → Q .normal a' w') l a) : (Code.region id l.toArray true).wp P Q a w :=
  wp_region_quiet (C := fun w' => ∃ p : GB, w' = gw w p.d p.os) hm hB (gw_of_below (below_drew (Below.refl _ _))) (by simpa using h)
/-- a callee's contract, met in a world of the class -/
theorem Calls.below_of {P : Program} {f : FuncId} {args : Array Value} {w : World} {d : Nat} {os : Array Obj} {v : Value}
    (h : Calls P f args (gw w d os) fun e w' => e = .returned v ∧ Below (gw w d os).heap.size (gw w d os) w') : Calls P f args (gw w d os) fun e w'' => e = .returned v ∧ ∃ p : GB, w'' = gw w p.d p.os :=
  h.mono fun _ _ ⟨he, hb⟩ => ⟨he, gw_of_below ((below_gw w d os).trans (hb.mono (below_gw w d os).size))⟩
theorem Calls.below_same {P : Program} {f : FuncId} {args : Array Value} {w : World} {d : Nat} {os : Array Obj} {v : Value}
    (h : Calls P f args (gw w d os) fun e w' => e = .returned v ∧ gw w d os = w') : Calls P f args (gw w d os) fun e w'' => e = .returned v ∧ ∃ p : GB, w'' = gw w p.d p.os :=
  h.mono fun _ _ ⟨he, hb⟩ => ⟨he, ⟨d, os⟩, hb.symm⟩

theorem ranges_up {w w' : World} {b o : Nat} {cs : List Value} (h : w.rangeAt b o cs) (hb : Below w.heap.size w w') : w'.rangeAt b o cs := fun j v hv => cell_up (h j v hv) hb
/-- a whole array read, as a step of such a region -/
theorem wpQuiet_load_mid {P : Program} {ops : Array Oper} {w : World} {Q : Act → Prop} {a : Act} {op : Oper} {rest : List Oper} (hgd : op.guard = none) (ty : TypeId) (x : Operand) (ho : op.op = .load ty x)
    (b o : Nat) (hx : a.eval x = .pointer (some ⟨b, o, none⟩)) (cs : List Value) (d : TypeDesc) (hc : w.rangeAt b o cs)
    (hu : P.underlying ty = some d) (hd : d.isRow = true) (hi : (P.info? ty).map (·.size) = some cs.length) (h : wpQuiet P ops (fun w' => ∃ p : GB, w' = gw w p.d p.os) Q rest (a.put op.dst (.agg cs.toArray))) :
    wpQuiet P ops (fun w' => ∃ p : GB, w' = gw w p.d p.os) Q (op :: rest) a := by
  refine wpQuiet_step (fun K hK => ?_)
  rw [if_pos (by simp [Region.wanted, hgd])]
  refine ⟨.agg cs.toArray, fun W hW => ?_, hK _ h⟩
  obtain ⟨p, rfl⟩ := hW
  unfold Oper.quietAt execOp
  simp only [ho, hx, Instr.loadAt, Instr.sureAddr, Sem.run_bind, Sem.run_pure, Result.andThen_ok, run_loadVar_mid (gw w p.d p.os) b o ty cs d (ranges_up hc (below_gw w p.d p.os)) hu hd hi]
  exact ⟨rfl, rfl⟩
end Go.Proofs.Ytnkmhbiklffjlaa
