/-
  No cell of these rows narrows 'for every input' (looked for: loops, veiled, ifaces, maps, wideKeys, modest, calm, conditions, laid).
  DERIVED. THE GIVEN ROWS OF THIS SEAT. 8 by the template 'for every input the law returns true; each argument reads behind the call as it read before'; 0 by the template 'total and deterministic' (their statements: YtemoddmadfoaiaaGreatTotals.lean).
  GIVEN WITH THE SEED: the statements are not yours to turn. If you find one false, say at which input.
  Laid BY PROGRAM, IN A SANDBOX (cutbox-rows.mjs): the forced cells as the released guide's own fill.sh prints them over the translation d6d7971eb762dedf… (all of the seat's roots in one cut). By AI agents, Wed Nov 11 2026. No macro, syntax, notation, axiom, sorry.
-/
import Derived.Test.YtemoddmadfoaiaaGreatChecked
import GoSem.Claim
import GoSem.ClaimJoined
import GoSem.ClaimMapViews
import Derived.JoinedTies
import Derived.KernelRfl
namespace Go.Proofs.YtemoddmadfoaiaaGreat
/- THE CELL 'sum', in the pinned program and in every row, IS THE sha256 OF THE DUMP (.gsa) THAT YtemoddmadfoaiaaGreatProg.lean LOADS. Nothing in Lean hashes anything: it is a label: what it is worth is what the hold of that sum in a sandbox is worth. -/
noncomputable def Tryz.pinned : Pinned := { name := "ytemoddmadfoaiaagreat", sum := "d6d7971eb762dedf2192c86306c8434133b54596c14f8d0b6c6d9b96531d89e0", checked := Tryz.checked }
namespace Rows
def none {H : Type} : Left H := { results := [], args := [] }

/-- 'fundadminlaw26.DealingWorth': WHATEVER THE INPUT: true; the input reads as it did. -/
def dealingWorthSpec : ChangeSpec := { name := "dealingWorth", fn := fun _ => fun
  | [d1, d2, d3] => { results := [.lit (.bool true)], args := [d1, d2, d3] }
  | _ => none }
def dealingWorthRow : OpenClaim := { program := "ytemoddmadfoaiaagreat", sum := "d6d7971eb762dedf2192c86306c8434133b54596c14f8d0b6c6d9b96531d89e0", func := "fundadmin/fundadminlaw26.DealingWorth", spec := "dealingWorth", inPlace := ["internal/bytealg.abigen_runtime_cmpstring", "slices.overlaps[fundadmin/api.Lot]"], unfollowed := true, recurses := true, named := ["math/bits.overflowError"], apart := false }
def DealingWorthSaid : Prop := dealingWorthRow.holds Tryz.pinned (OpenSpec.ofChange dealingWorthSpec)

/-- ITS FALSE NEIGHBOUR: 'it returns false'. Refute it at one input. -/
def dealingWorthWrong : ChangeSpec := { name := "dealingWorth", fn := fun _ => fun
  | [d1, d2, d3] => { results := [.lit (.bool false)], args := [d1, d2, d3] }
  | _ => none }
def DealingWorthWrongFalsely : Prop := dealingWorthRow.holds Tryz.pinned (OpenSpec.ofChange dealingWorthWrong)

/-- 'fundadminlaw26.DealingExecutes': WHATEVER THE INPUT: true; the input reads as it did. -/
def dealingExecutesSpec : ChangeSpec := { name := "dealingExecutes", fn := fun _ => fun
  | [d1, d2, d3] => { results := [.lit (.bool true)], args := [d1, d2, d3] }
  | _ => none }
def dealingExecutesRow : OpenClaim := { program := "ytemoddmadfoaiaagreat", sum := "d6d7971eb762dedf2192c86306c8434133b54596c14f8d0b6c6d9b96531d89e0", func := "fundadmin/fundadminlaw26.DealingExecutes", spec := "dealingExecutes", inPlace := ["internal/bytealg.abigen_runtime_cmpstring", "slices.overlaps[fundadmin/api.Lot]"], unfollowed := true, recurses := true, named := ["math/bits.overflowError"], apart := false }
def DealingExecutesSaid : Prop := dealingExecutesRow.holds Tryz.pinned (OpenSpec.ofChange dealingExecutesSpec)

/-- ITS FALSE NEIGHBOUR: 'it returns false'. Refute it at one input. -/
def dealingExecutesWrong : ChangeSpec := { name := "dealingExecutes", fn := fun _ => fun
  | [d1, d2, d3] => { results := [.lit (.bool false)], args := [d1, d2, d3] }
  | _ => none }
def DealingExecutesWrongFalsely : Prop := dealingExecutesRow.holds Tryz.pinned (OpenSpec.ofChange dealingExecutesWrong)

/-- 'fundadminlaw26.DealingSpoilt': WHATEVER THE INPUT: true; the input reads as it did. -/
def dealingSpoiltSpec : ChangeSpec := { name := "dealingSpoilt", fn := fun _ => fun
  | [d1, d2, d3] => { results := [.lit (.bool true)], args := [d1, d2, d3] }
  | _ => none }
def dealingSpoiltRow : OpenClaim := { program := "ytemoddmadfoaiaagreat", sum := "d6d7971eb762dedf2192c86306c8434133b54596c14f8d0b6c6d9b96531d89e0", func := "fundadmin/fundadminlaw26.DealingSpoilt", spec := "dealingSpoilt", inPlace := ["internal/bytealg.abigen_runtime_cmpstring", "slices.overlaps[fundadmin/api.Lot]"], unfollowed := true, recurses := true, named := ["math/bits.overflowError"], apart := false }
def DealingSpoiltSaid : Prop := dealingSpoiltRow.holds Tryz.pinned (OpenSpec.ofChange dealingSpoiltSpec)

/-- ITS FALSE NEIGHBOUR: 'it returns false'. Refute it at one input. -/
def dealingSpoiltWrong : ChangeSpec := { name := "dealingSpoilt", fn := fun _ => fun
  | [d1, d2, d3] => { results := [.lit (.bool false)], args := [d1, d2, d3] }
  | _ => none }
def DealingSpoiltWrongFalsely : Prop := dealingSpoiltRow.holds Tryz.pinned (OpenSpec.ofChange dealingSpoiltWrong)

/-- 'fundadminlaw26.DealingKeepsUnits': WHATEVER THE INPUT: true; the input reads as it did. -/
def dealingKeepsUnitsSpec : ChangeSpec := { name := "dealingKeepsUnits", fn := fun _ => fun
  | [d1, d2] => { results := [.lit (.bool true)], args := [d1, d2] }
  | _ => none }
def dealingKeepsUnitsRow : OpenClaim := { program := "ytemoddmadfoaiaagreat", sum := "d6d7971eb762dedf2192c86306c8434133b54596c14f8d0b6c6d9b96531d89e0", func := "fundadmin/fundadminlaw26.DealingKeepsUnits", spec := "dealingKeepsUnits", inPlace := ["internal/bytealg.abigen_runtime_cmpstring", "slices.overlaps[fundadmin/api.Lot]"], unfollowed := true, recurses := true, named := ["math/bits.overflowError"], apart := false }
def DealingKeepsUnitsSaid : Prop := dealingKeepsUnitsRow.holds Tryz.pinned (OpenSpec.ofChange dealingKeepsUnitsSpec)

/-- ITS FALSE NEIGHBOUR: 'it returns false'. Refute it at one input. -/
def dealingKeepsUnitsWrong : ChangeSpec := { name := "dealingKeepsUnits", fn := fun _ => fun
  | [d1, d2] => { results := [.lit (.bool false)], args := [d1, d2] }
  | _ => none }
def DealingKeepsUnitsWrongFalsely : Prop := dealingKeepsUnitsRow.holds Tryz.pinned (OpenSpec.ofChange dealingKeepsUnitsWrong)

/-- 'fundadminlaw26.DealingIsExact': WHATEVER THE INPUT: true; the input reads as it did. -/
def dealingIsExactSpec : ChangeSpec := { name := "dealingIsExact", fn := fun _ => fun
  | [d1, d2] => { results := [.lit (.bool true)], args := [d1, d2] }
  | _ => none }
def dealingIsExactRow : OpenClaim := { program := "ytemoddmadfoaiaagreat", sum := "d6d7971eb762dedf2192c86306c8434133b54596c14f8d0b6c6d9b96531d89e0", func := "fundadmin/fundadminlaw26.DealingIsExact", spec := "dealingIsExact", inPlace := ["internal/bytealg.abigen_runtime_cmpstring", "slices.overlaps[fundadmin/api.Lot]"], unfollowed := true, recurses := true, named := ["math/bits.overflowError"], apart := false }
def DealingIsExactSaid : Prop := dealingIsExactRow.holds Tryz.pinned (OpenSpec.ofChange dealingIsExactSpec)

/-- ITS FALSE NEIGHBOUR: 'it returns false'. Refute it at one input. -/
def dealingIsExactWrong : ChangeSpec := { name := "dealingIsExact", fn := fun _ => fun
  | [d1, d2] => { results := [.lit (.bool false)], args := [d1, d2] }
  | _ => none }
def DealingIsExactWrongFalsely : Prop := dealingIsExactRow.holds Tryz.pinned (OpenSpec.ofChange dealingIsExactWrong)

/-- 'fundadminlaw26.DealingIsFair': WHATEVER THE INPUT: true; the input reads as it did. -/
def dealingIsFairSpec : ChangeSpec := { name := "dealingIsFair", fn := fun _ => fun
  | [d1, d2] => { results := [.lit (.bool true)], args := [d1, d2] }
  | _ => none }
def dealingIsFairRow : OpenClaim := { program := "ytemoddmadfoaiaagreat", sum := "d6d7971eb762dedf2192c86306c8434133b54596c14f8d0b6c6d9b96531d89e0", func := "fundadmin/fundadminlaw26.DealingIsFair", spec := "dealingIsFair", inPlace := ["internal/bytealg.abigen_runtime_cmpstring", "slices.overlaps[fundadmin/api.Lot]"], unfollowed := true, recurses := true, named := ["math/bits.overflowError"], apart := false }
def DealingIsFairSaid : Prop := dealingIsFairRow.holds Tryz.pinned (OpenSpec.ofChange dealingIsFairSpec)

/-- ITS FALSE NEIGHBOUR: 'it returns false'. Refute it at one input. -/
def dealingIsFairWrong : ChangeSpec := { name := "dealingIsFair", fn := fun _ => fun
  | [d1, d2] => { results := [.lit (.bool false)], args := [d1, d2] }
  | _ => none }
def DealingIsFairWrongFalsely : Prop := dealingIsFairRow.holds Tryz.pinned (OpenSpec.ofChange dealingIsFairWrong)

/-- 'fundadminlaw26.DealingHurtsNobody': WHATEVER THE INPUT: true; the input reads as it did. -/
def dealingHurtsNobodySpec : ChangeSpec := { name := "dealingHurtsNobody", fn := fun _ => fun
  | [d1, d2, d3] => { results := [.lit (.bool true)], args := [d1, d2, d3] }
  | _ => none }
def dealingHurtsNobodyRow : OpenClaim := { program := "ytemoddmadfoaiaagreat", sum := "d6d7971eb762dedf2192c86306c8434133b54596c14f8d0b6c6d9b96531d89e0", func := "fundadmin/fundadminlaw26.DealingHurtsNobody", spec := "dealingHurtsNobody", inPlace := ["internal/bytealg.abigen_runtime_cmpstring", "slices.overlaps[fundadmin/api.Lot]"], unfollowed := true, recurses := true, named := ["math/bits.overflowError"], apart := false }
def DealingHurtsNobodySaid : Prop := dealingHurtsNobodyRow.holds Tryz.pinned (OpenSpec.ofChange dealingHurtsNobodySpec)

/-- ITS FALSE NEIGHBOUR: 'it returns false'. Refute it at one input. -/
def dealingHurtsNobodyWrong : ChangeSpec := { name := "dealingHurtsNobody", fn := fun _ => fun
  | [d1, d2, d3] => { results := [.lit (.bool false)], args := [d1, d2, d3] }
  | _ => none }
def DealingHurtsNobodyWrongFalsely : Prop := dealingHurtsNobodyRow.holds Tryz.pinned (OpenSpec.ofChange dealingHurtsNobodyWrong)

/-- 'fundadminlaw26.DealingFlows': WHATEVER THE INPUT: true; the input reads as it did. -/
def dealingFlowsSpec : ChangeSpec := { name := "dealingFlows", fn := fun _ => fun
  | [d] => { results := [.lit (.bool true)], args := [d] }
  | _ => none }
def dealingFlowsRow : OpenClaim := { program := "ytemoddmadfoaiaagreat", sum := "d6d7971eb762dedf2192c86306c8434133b54596c14f8d0b6c6d9b96531d89e0", func := "fundadmin/fundadminlaw26.DealingFlows", spec := "dealingFlows", inPlace := ["internal/bytealg.abigen_runtime_cmpstring", "slices.overlaps[fundadmin/api.Lot]"], unfollowed := true, recurses := true, named := ["math/bits.overflowError"], apart := false }
def DealingFlowsSaid : Prop := dealingFlowsRow.holds Tryz.pinned (OpenSpec.ofChange dealingFlowsSpec)

/-- ITS FALSE NEIGHBOUR: 'it returns false'. Refute it at one input. -/
def dealingFlowsWrong : ChangeSpec := { name := "dealingFlows", fn := fun _ => fun
  | [d] => { results := [.lit (.bool false)], args := [d] }
  | _ => none }
def DealingFlowsWrongFalsely : Prop := dealingFlowsRow.holds Tryz.pinned (OpenSpec.ofChange dealingFlowsWrong)

/- THE SECOND FORM. 'bulk': how many values and letters a reading holds, each counted each time it is reached (what is shared counts as often as it is met; a slice's spare places count too). A statement '..UptoSaid' is the law's where the arguments, and the package variables that the reading takes, are together of bulk at most 1048576: NARROWER than '..Said'. Prove '..Said' where nothing that the law and all that it calls make is longer than what came in: it says more and counts as full. Else prove '..UptoSaid'. A law counts once. -/
mutual
def uptoBulk {H : Type} : DataW H → Nat
  | .lit (.string bytes) => bytes.length + 1
  | .lit _ => 1
  | .nil => 1
  | .ptr d => uptoBulk d + 1
  | .slice elems spare => uptoBulkAll elems + uptoBulkAll spare + 1
  | .agg parts => uptoBulkAll parts + 1
  | .iface _ d => uptoBulk d + 1
  | .map entries => uptoBulkEntries entries + 1
  | .held _ => 1
def uptoBulkAll {H : Type} : List (DataW H) → Nat
  | [] => 0
  | d :: r => uptoBulk d + uptoBulkAll r
def uptoBulkEntries {H : Type} : List (Lit × DataW H) → Nat
  | [] => 0
  | x :: r => uptoBulkEntry x + uptoBulkEntries r
def uptoBulkEntry {H : Type} : Lit × DataW H → Nat
  | (.string bytes, d) => bytes.length + uptoBulk d + 1
  | (_, d) => uptoBulk d + 1
 end
def uptoSmall : (H : Type) → List (DataW H) → Bool := fun _ ds => decide (uptoBulkAll ds ≤ 1048576)
def OpenSpec.upto (s : _root_.Go.ChangeSpec) : _root_.Go.OpenSpec := { _root_.Go.OpenSpec.ofChange s with cond := some uptoSmall }

/-- 'fundadminlaw26.DealingWorth', WHERE WHAT IT READS IS OF BULK AT MOST 1048576: true; the input reads as it did. -/
def dealingWorthUptoRow : OpenClaim := { program := "ytemoddmadfoaiaagreat", sum := "d6d7971eb762dedf2192c86306c8434133b54596c14f8d0b6c6d9b96531d89e0", func := "fundadmin/fundadminlaw26.DealingWorth", spec := "dealingWorth", inPlace := ["internal/bytealg.abigen_runtime_cmpstring", "slices.overlaps[fundadmin/api.Lot]"], unfollowed := true, recurses := true, named := ["math/bits.overflowError"], apart := false, narrowed := true }
def DealingWorthUptoSaid : Prop := dealingWorthUptoRow.holds Tryz.pinned (OpenSpec.upto dealingWorthSpec)

/-- 'fundadminlaw26.DealingExecutes', WHERE WHAT IT READS IS OF BULK AT MOST 1048576: true; the input reads as it did. -/
def dealingExecutesUptoRow : OpenClaim := { program := "ytemoddmadfoaiaagreat", sum := "d6d7971eb762dedf2192c86306c8434133b54596c14f8d0b6c6d9b96531d89e0", func := "fundadmin/fundadminlaw26.DealingExecutes", spec := "dealingExecutes", inPlace := ["internal/bytealg.abigen_runtime_cmpstring", "slices.overlaps[fundadmin/api.Lot]"], unfollowed := true, recurses := true, named := ["math/bits.overflowError"], apart := false, narrowed := true }
def DealingExecutesUptoSaid : Prop := dealingExecutesUptoRow.holds Tryz.pinned (OpenSpec.upto dealingExecutesSpec)

/-- 'fundadminlaw26.DealingSpoilt', WHERE WHAT IT READS IS OF BULK AT MOST 1048576: true; the input reads as it did. -/
def dealingSpoiltUptoRow : OpenClaim := { program := "ytemoddmadfoaiaagreat", sum := "d6d7971eb762dedf2192c86306c8434133b54596c14f8d0b6c6d9b96531d89e0", func := "fundadmin/fundadminlaw26.DealingSpoilt", spec := "dealingSpoilt", inPlace := ["internal/bytealg.abigen_runtime_cmpstring", "slices.overlaps[fundadmin/api.Lot]"], unfollowed := true, recurses := true, named := ["math/bits.overflowError"], apart := false, narrowed := true }
def DealingSpoiltUptoSaid : Prop := dealingSpoiltUptoRow.holds Tryz.pinned (OpenSpec.upto dealingSpoiltSpec)

/-- 'fundadminlaw26.DealingKeepsUnits', WHERE WHAT IT READS IS OF BULK AT MOST 1048576: true; the input reads as it did. -/
def dealingKeepsUnitsUptoRow : OpenClaim := { program := "ytemoddmadfoaiaagreat", sum := "d6d7971eb762dedf2192c86306c8434133b54596c14f8d0b6c6d9b96531d89e0", func := "fundadmin/fundadminlaw26.DealingKeepsUnits", spec := "dealingKeepsUnits", inPlace := ["internal/bytealg.abigen_runtime_cmpstring", "slices.overlaps[fundadmin/api.Lot]"], unfollowed := true, recurses := true, named := ["math/bits.overflowError"], apart := false, narrowed := true }
def DealingKeepsUnitsUptoSaid : Prop := dealingKeepsUnitsUptoRow.holds Tryz.pinned (OpenSpec.upto dealingKeepsUnitsSpec)

/-- 'fundadminlaw26.DealingIsExact', WHERE WHAT IT READS IS OF BULK AT MOST 1048576: true; the input reads as it did. -/
def dealingIsExactUptoRow : OpenClaim := { program := "ytemoddmadfoaiaagreat", sum := "d6d7971eb762dedf2192c86306c8434133b54596c14f8d0b6c6d9b96531d89e0", func := "fundadmin/fundadminlaw26.DealingIsExact", spec := "dealingIsExact", inPlace := ["internal/bytealg.abigen_runtime_cmpstring", "slices.overlaps[fundadmin/api.Lot]"], unfollowed := true, recurses := true, named := ["math/bits.overflowError"], apart := false, narrowed := true }
def DealingIsExactUptoSaid : Prop := dealingIsExactUptoRow.holds Tryz.pinned (OpenSpec.upto dealingIsExactSpec)

/-- 'fundadminlaw26.DealingIsFair', WHERE WHAT IT READS IS OF BULK AT MOST 1048576: true; the input reads as it did. -/
def dealingIsFairUptoRow : OpenClaim := { program := "ytemoddmadfoaiaagreat", sum := "d6d7971eb762dedf2192c86306c8434133b54596c14f8d0b6c6d9b96531d89e0", func := "fundadmin/fundadminlaw26.DealingIsFair", spec := "dealingIsFair", inPlace := ["internal/bytealg.abigen_runtime_cmpstring", "slices.overlaps[fundadmin/api.Lot]"], unfollowed := true, recurses := true, named := ["math/bits.overflowError"], apart := false, narrowed := true }
def DealingIsFairUptoSaid : Prop := dealingIsFairUptoRow.holds Tryz.pinned (OpenSpec.upto dealingIsFairSpec)

/-- 'fundadminlaw26.DealingHurtsNobody', WHERE WHAT IT READS IS OF BULK AT MOST 1048576: true; the input reads as it did. -/
def dealingHurtsNobodyUptoRow : OpenClaim := { program := "ytemoddmadfoaiaagreat", sum := "d6d7971eb762dedf2192c86306c8434133b54596c14f8d0b6c6d9b96531d89e0", func := "fundadmin/fundadminlaw26.DealingHurtsNobody", spec := "dealingHurtsNobody", inPlace := ["internal/bytealg.abigen_runtime_cmpstring", "slices.overlaps[fundadmin/api.Lot]"], unfollowed := true, recurses := true, named := ["math/bits.overflowError"], apart := false, narrowed := true }
def DealingHurtsNobodyUptoSaid : Prop := dealingHurtsNobodyUptoRow.holds Tryz.pinned (OpenSpec.upto dealingHurtsNobodySpec)

/-- 'fundadminlaw26.DealingFlows', WHERE WHAT IT READS IS OF BULK AT MOST 1048576: true; the input reads as it did. -/
def dealingFlowsUptoRow : OpenClaim := { program := "ytemoddmadfoaiaagreat", sum := "d6d7971eb762dedf2192c86306c8434133b54596c14f8d0b6c6d9b96531d89e0", func := "fundadmin/fundadminlaw26.DealingFlows", spec := "dealingFlows", inPlace := ["internal/bytealg.abigen_runtime_cmpstring", "slices.overlaps[fundadmin/api.Lot]"], unfollowed := true, recurses := true, named := ["math/bits.overflowError"], apart := false, narrowed := true }
def DealingFlowsUptoSaid : Prop := dealingFlowsUptoRow.holds Tryz.pinned (OpenSpec.upto dealingFlowsSpec)

end Rows
end Go.Proofs.YtemoddmadfoaiaaGreat
