/-
  No cell of these rows narrows 'for every input' (looked for: loops, veiled, ifaces, maps, wideKeys, modest, calm, conditions, laid).
  DERIVED. THE GIVEN ROWS OF THIS SEAT. 3 by the template 'for every input the law returns true; each argument reads behind the call as it read before'; 0 by the template 'total and deterministic' (their statements: YtmcekgapelanhaaTotals.lean).
  GIVEN WITH THE SEED: the statements are not yours to turn. If you find one false, say at which input.
  Laid BY PROGRAM, IN A SANDBOX (cutbox-rows.mjs): the forced cells as the released guide's own fill.sh prints them over the translation 8b25d49548d248ad… (all of the seat's roots in one cut). By AI agents, Wed Nov 11 2026. No macro, syntax, notation, axiom, sorry.
-/
import Derived.Test.YtmcekgapelanhaaChecked
import GoSem.Claim
import GoSem.ClaimJoined
import GoSem.ClaimMapViews
import Derived.JoinedTies
import Derived.KernelRfl
namespace Go.Proofs.Ytmcekgapelanhaa
/- THE CELL 'sum', in the pinned program and in every row, IS THE sha256 OF THE DUMP (.gsa) THAT YtmcekgapelanhaaProg.lean LOADS. Nothing in Lean hashes anything: it is a label: what it is worth is what the hold of that sum in a sandbox is worth. -/
noncomputable def Try.pinned : Pinned := { name := "ytmcekgapelanhaa", sum := "8b25d49548d248ad42f6581258fb830a4b957d2a5ffe2f19abee49ef43094630", checked := Try.checked }
namespace Rows
def none {H : Type} : Left H := { results := [], args := [] }

/-- 'fundadminlaw21.AllocationFair': WHATEVER THE INPUT: true; the input reads as it did. -/
def allocationFairSpec : ChangeSpec := { name := "allocationFair", fn := fun _ => fun
  | [d] => { results := [.lit (.bool true)], args := [d] }
  | _ => none }
def allocationFairRow : OpenClaim := { program := "ytmcekgapelanhaa", sum := "8b25d49548d248ad42f6581258fb830a4b957d2a5ffe2f19abee49ef43094630", func := "fundadmin/fundadminlaw21.AllocationFair", spec := "allocationFair", unfollowed := true, recurses := true, named := ["math/bits.divideError", "math/bits.overflowError"], apart := false }
def AllocationFairSaid : Prop := allocationFairRow.holds Try.pinned (OpenSpec.ofChange allocationFairSpec)

/-- ITS FALSE NEIGHBOUR: 'it returns false'. Refute it at one input. -/
def allocationFairWrong : ChangeSpec := { name := "allocationFair", fn := fun _ => fun
  | [d] => { results := [.lit (.bool false)], args := [d] }
  | _ => none }
def AllocationFairWrongFalsely : Prop := allocationFairRow.holds Try.pinned (OpenSpec.ofChange allocationFairWrong)

/-- 'fundadminlaw21.AllocationOwn': WHATEVER THE INPUT: true; the input reads as it did. -/
def allocationOwnSpec : ChangeSpec := { name := "allocationOwn", fn := fun _ => fun
  | [d] => { results := [.lit (.bool true)], args := [d] }
  | _ => none }
def allocationOwnRow : OpenClaim := { program := "ytmcekgapelanhaa", sum := "8b25d49548d248ad42f6581258fb830a4b957d2a5ffe2f19abee49ef43094630", func := "fundadmin/fundadminlaw21.AllocationOwn", spec := "allocationOwn", unfollowed := true, recurses := true, named := ["math/bits.divideError", "math/bits.overflowError"], apart := false }
def AllocationOwnSaid : Prop := allocationOwnRow.holds Try.pinned (OpenSpec.ofChange allocationOwnSpec)

/-- ITS FALSE NEIGHBOUR: 'it returns false'. Refute it at one input. -/
def allocationOwnWrong : ChangeSpec := { name := "allocationOwn", fn := fun _ => fun
  | [d] => { results := [.lit (.bool false)], args := [d] }
  | _ => none }
def AllocationOwnWrongFalsely : Prop := allocationOwnRow.holds Try.pinned (OpenSpec.ofChange allocationOwnWrong)

/-- 'fundadminlaw21.AllocationFlows': WHATEVER THE INPUT: true; the input reads as it did. -/
def allocationFlowsSpec : ChangeSpec := { name := "allocationFlows", fn := fun _ => fun
  | [d] => { results := [.lit (.bool true)], args := [d] }
  | _ => none }
def allocationFlowsRow : OpenClaim := { program := "ytmcekgapelanhaa", sum := "8b25d49548d248ad42f6581258fb830a4b957d2a5ffe2f19abee49ef43094630", func := "fundadmin/fundadminlaw21.AllocationFlows", spec := "allocationFlows", unfollowed := true, recurses := true, named := ["math/bits.overflowError", "math/bits.divideError"], apart := false }
def AllocationFlowsSaid : Prop := allocationFlowsRow.holds Try.pinned (OpenSpec.ofChange allocationFlowsSpec)

/-- ITS FALSE NEIGHBOUR: 'it returns false'. Refute it at one input. -/
def allocationFlowsWrong : ChangeSpec := { name := "allocationFlows", fn := fun _ => fun
  | [d] => { results := [.lit (.bool false)], args := [d] }
  | _ => none }
def AllocationFlowsWrongFalsely : Prop := allocationFlowsRow.holds Try.pinned (OpenSpec.ofChange allocationFlowsWrong)

/- THE SECOND FORM. 'bulk': how many values and letters a reading holds, each counted each time it is reached (what is shared counts as often as it is met; a slice's spare places count too). A statement '..UptoSaid' is the law's where the arguments, and the package variables that the reading takes, are together of bulk at most 1048576: NARROWER than '..Said'. Prove '..Said' where nothing that the law and all that it calls make is longer than what came in: it says more and counts as full. Else prove '..UptoSaid'. A law counts once. -/
mutual
def uptoBulk {H : Type} : DataW H → Nat
  | .lit (.string bytes) => bytes.length + 1
  | .lit _ => 1
  | .nil => 1
  | .ptr d => uptoBulk d + 1
  | .slice elems spare => uptoBulkAll elems + uptoBulkAll spare + 1
  | .agg parts => uptoBulkAll parts + 1
  | .iface _ d => uptoBulk d + 1
  | .map entries => uptoBulkEntries entries + 1
  | .held _ => 1
def uptoBulkAll {H : Type} : List (DataW H) → Nat
  | [] => 0
  | d :: r => uptoBulk d + uptoBulkAll r
def uptoBulkEntries {H : Type} : List (Lit × DataW H) → Nat
  | [] => 0
  | x :: r => uptoBulkEntry x + uptoBulkEntries r
def uptoBulkEntry {H : Type} : Lit × DataW H → Nat
  | (.string bytes, d) => bytes.length + uptoBulk d + 1
  | (_, d) => uptoBulk d + 1
 end
def uptoSmall : (H : Type) → List (DataW H) → Bool := fun _ ds => decide (uptoBulkAll ds ≤ 1048576)
def OpenSpec.upto (s : _root_.Go.ChangeSpec) : _root_.Go.OpenSpec := { _root_.Go.OpenSpec.ofChange s with cond := some uptoSmall }

/-- 'fundadminlaw21.AllocationFair', WHERE WHAT IT READS IS OF BULK AT MOST 1048576: true; the input reads as it did. -/
def allocationFairUptoRow : OpenClaim := { program := "ytmcekgapelanhaa", sum := "8b25d49548d248ad42f6581258fb830a4b957d2a5ffe2f19abee49ef43094630", func := "fundadmin/fundadminlaw21.AllocationFair", spec := "allocationFair", unfollowed := true, recurses := true, named := ["math/bits.divideError", "math/bits.overflowError"], apart := false, narrowed := true }
def AllocationFairUptoSaid : Prop := allocationFairUptoRow.holds Try.pinned (OpenSpec.upto allocationFairSpec)

/-- 'fundadminlaw21.AllocationOwn', WHERE WHAT IT READS IS OF BULK AT MOST 1048576: true; the input reads as it did. -/
def allocationOwnUptoRow : OpenClaim := { program := "ytmcekgapelanhaa", sum := "8b25d49548d248ad42f6581258fb830a4b957d2a5ffe2f19abee49ef43094630", func := "fundadmin/fundadminlaw21.AllocationOwn", spec := "allocationOwn", unfollowed := true, recurses := true, named := ["math/bits.divideError", "math/bits.overflowError"], apart := false, narrowed := true }
def AllocationOwnUptoSaid : Prop := allocationOwnUptoRow.holds Try.pinned (OpenSpec.upto allocationOwnSpec)

/-- 'fundadminlaw21.AllocationFlows', WHERE WHAT IT READS IS OF BULK AT MOST 1048576: true; the input reads as it did. -/
def allocationFlowsUptoRow : OpenClaim := { program := "ytmcekgapelanhaa", sum := "8b25d49548d248ad42f6581258fb830a4b957d2a5ffe2f19abee49ef43094630", func := "fundadmin/fundadminlaw21.AllocationFlows", spec := "allocationFlows", unfollowed := true, recurses := true, named := ["math/bits.overflowError", "math/bits.divideError"], apart := false, narrowed := true }
def AllocationFlowsUptoSaid : Prop := allocationFlowsUptoRow.holds Try.pinned (OpenSpec.upto allocationFlowsSpec)

end Rows
end Go.Proofs.Ytmcekgapelanhaa
