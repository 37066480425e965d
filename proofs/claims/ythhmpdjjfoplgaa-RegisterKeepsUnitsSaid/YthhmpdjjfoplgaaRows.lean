/-
  No cell of these rows narrows 'for every input' (looked for: loops, veiled, ifaces, maps, wideKeys, modest, calm, conditions, laid).
  DERIVED. THE GIVEN ROWS OF THIS SEAT. 9 by the template 'for every input the law returns true; each argument reads behind the call as it read before'; 0 by the template 'total and deterministic' (their statements: YthhmpdjjfoplgaaTotals.lean).
  GIVEN WITH THE SEED: the statements are not yours to turn. If you find one false, say at which input.
  Laid BY PROGRAM, IN A SANDBOX (cutbox-rows.mjs): the forced cells as the released guide's own fill.sh prints them over the translation 5bb92355ed5f97e7… (all of the seat's roots in one cut). By AI agents, Wed Nov 11 2026. No macro, syntax, notation, axiom, sorry.
-/
import Derived.Test.YthhmpdjjfoplgaaChecked
import GoSem.Claim
import GoSem.ClaimJoined
import GoSem.ClaimMapViews
import Derived.JoinedTies
import Derived.KernelRfl
namespace Go.Proofs.Ythhmpdjjfoplgaa
/- THE CELL 'sum', in the pinned program and in every row, IS THE sha256 OF THE DUMP (.gsa) THAT YthhmpdjjfoplgaaProg.lean LOADS. Nothing in Lean hashes anything: it is a label: what it is worth is what the hold of that sum in a sandbox is worth. -/
noncomputable def Try.pinned : Pinned := { name := "ythhmpdjjfoplgaa", sum := "5bb92355ed5f97e726d117a588a2277b99b0bce58fbf276fa57cda73b9fff762", checked := Try.checked }
namespace Rows
def none {H : Type} : Left H := { results := [], args := [] }

/-- 'fundadminlaw25.RegisterRedeems': WHATEVER THE INPUT: true; the input reads as it did. -/
def registerRedeemsSpec : ChangeSpec := { name := "registerRedeems", fn := fun _ => fun
  | [d1, d2, d3] => { results := [.lit (.bool true)], args := [d1, d2, d3] }
  | _ => none }
def registerRedeemsRow : OpenClaim := { program := "ythhmpdjjfoplgaa", sum := "5bb92355ed5f97e726d117a588a2277b99b0bce58fbf276fa57cda73b9fff762", func := "fundadmin/fundadminlaw25.RegisterRedeems", spec := "registerRedeems", inPlace := ["internal/bytealg.abigen_runtime_cmpstring", "slices.overlaps[fundadmin/api.Lot]"], unfollowed := true, recurses := true, apart := false }
def RegisterRedeemsSaid : Prop := registerRedeemsRow.holds Try.pinned (OpenSpec.ofChange registerRedeemsSpec)

/-- ITS FALSE NEIGHBOUR: 'it returns false'. Refute it at one input. -/
def registerRedeemsWrong : ChangeSpec := { name := "registerRedeems", fn := fun _ => fun
  | [d1, d2, d3] => { results := [.lit (.bool false)], args := [d1, d2, d3] }
  | _ => none }
def RegisterRedeemsWrongFalsely : Prop := registerRedeemsRow.holds Try.pinned (OpenSpec.ofChange registerRedeemsWrong)

/-- 'fundadminlaw25.RegisterTakesTheOldestFirst': WHATEVER THE INPUT: true; the input reads as it did. -/
def registerTakesTheOldestFirstSpec : ChangeSpec := { name := "registerTakesTheOldestFirst", fn := fun _ => fun
  | [d1, d2] => { results := [.lit (.bool true)], args := [d1, d2] }
  | _ => none }
def registerTakesTheOldestFirstRow : OpenClaim := { program := "ythhmpdjjfoplgaa", sum := "5bb92355ed5f97e726d117a588a2277b99b0bce58fbf276fa57cda73b9fff762", func := "fundadmin/fundadminlaw25.RegisterTakesTheOldestFirst", spec := "registerTakesTheOldestFirst", inPlace := ["internal/bytealg.abigen_runtime_cmpstring", "slices.overlaps[fundadmin/api.Lot]"], unfollowed := true, recurses := true, apart := false }
def RegisterTakesTheOldestFirstSaid : Prop := registerTakesTheOldestFirstRow.holds Try.pinned (OpenSpec.ofChange registerTakesTheOldestFirstSpec)

/-- ITS FALSE NEIGHBOUR: 'it returns false'. Refute it at one input. -/
def registerTakesTheOldestFirstWrong : ChangeSpec := { name := "registerTakesTheOldestFirst", fn := fun _ => fun
  | [d1, d2] => { results := [.lit (.bool false)], args := [d1, d2] }
  | _ => none }
def RegisterTakesTheOldestFirstWrongFalsely : Prop := registerTakesTheOldestFirstRow.holds Try.pinned (OpenSpec.ofChange registerTakesTheOldestFirstWrong)

/-- 'fundadminlaw25.RegisterTells': WHATEVER THE INPUT: true; the input reads as it did. -/
def registerTellsSpec : ChangeSpec := { name := "registerTells", fn := fun _ => fun
  | [d1, d2] => { results := [.lit (.bool true)], args := [d1, d2] }
  | _ => none }
def registerTellsRow : OpenClaim := { program := "ythhmpdjjfoplgaa", sum := "5bb92355ed5f97e726d117a588a2277b99b0bce58fbf276fa57cda73b9fff762", func := "fundadmin/fundadminlaw25.RegisterTells", spec := "registerTells", inPlace := ["internal/bytealg.abigen_runtime_cmpstring", "slices.overlaps[fundadmin/api.Lot]"], unfollowed := true, recurses := true, apart := false }
def RegisterTellsSaid : Prop := registerTellsRow.holds Try.pinned (OpenSpec.ofChange registerTellsSpec)

/-- ITS FALSE NEIGHBOUR: 'it returns false'. Refute it at one input. -/
def registerTellsWrong : ChangeSpec := { name := "registerTells", fn := fun _ => fun
  | [d1, d2] => { results := [.lit (.bool false)], args := [d1, d2] }
  | _ => none }
def RegisterTellsWrongFalsely : Prop := registerTellsRow.holds Try.pinned (OpenSpec.ofChange registerTellsWrong)

/-- 'fundadminlaw25.RegisterIssues': WHATEVER THE INPUT: true; the input reads as it did. -/
def registerIssuesSpec : ChangeSpec := { name := "registerIssues", fn := fun _ => fun
  | [d1, d2, d3, d4] => { results := [.lit (.bool true)], args := [d1, d2, d3, d4] }
  | _ => none }
def registerIssuesRow : OpenClaim := { program := "ythhmpdjjfoplgaa", sum := "5bb92355ed5f97e726d117a588a2277b99b0bce58fbf276fa57cda73b9fff762", func := "fundadmin/fundadminlaw25.RegisterIssues", spec := "registerIssues", inPlace := ["internal/bytealg.abigen_runtime_cmpstring", "slices.overlaps[fundadmin/api.Lot]"], unfollowed := true, recurses := true, apart := false }
def RegisterIssuesSaid : Prop := registerIssuesRow.holds Try.pinned (OpenSpec.ofChange registerIssuesSpec)

/-- ITS FALSE NEIGHBOUR: 'it returns false'. Refute it at one input. -/
def registerIssuesWrong : ChangeSpec := { name := "registerIssues", fn := fun _ => fun
  | [d1, d2, d3, d4] => { results := [.lit (.bool false)], args := [d1, d2, d3, d4] }
  | _ => none }
def RegisterIssuesWrongFalsely : Prop := registerIssuesRow.holds Try.pinned (OpenSpec.ofChange registerIssuesWrong)

/-- 'fundadminlaw25.RegisterTransfers': WHATEVER THE INPUT: true; the input reads as it did. -/
def registerTransfersSpec : ChangeSpec := { name := "registerTransfers", fn := fun _ => fun
  | [d1, d2, d3, d4] => { results := [.lit (.bool true)], args := [d1, d2, d3, d4] }
  | _ => none }
def registerTransfersRow : OpenClaim := { program := "ythhmpdjjfoplgaa", sum := "5bb92355ed5f97e726d117a588a2277b99b0bce58fbf276fa57cda73b9fff762", func := "fundadmin/fundadminlaw25.RegisterTransfers", spec := "registerTransfers", inPlace := ["internal/bytealg.abigen_runtime_cmpstring", "slices.overlaps[fundadmin/api.Lot]"], unfollowed := true, recurses := true, apart := false }
def RegisterTransfersSaid : Prop := registerTransfersRow.holds Try.pinned (OpenSpec.ofChange registerTransfersSpec)

/-- ITS FALSE NEIGHBOUR: 'it returns false'. Refute it at one input. -/
def registerTransfersWrong : ChangeSpec := { name := "registerTransfers", fn := fun _ => fun
  | [d1, d2, d3, d4] => { results := [.lit (.bool false)], args := [d1, d2, d3, d4] }
  | _ => none }
def RegisterTransfersWrongFalsely : Prop := registerTransfersRow.holds Try.pinned (OpenSpec.ofChange registerTransfersWrong)

/-- 'fundadminlaw25.RegisterTransfersBack': WHATEVER THE INPUT: true; the input reads as it did. -/
def registerTransfersBackSpec : ChangeSpec := { name := "registerTransfersBack", fn := fun _ => fun
  | [d1, d2] => { results := [.lit (.bool true)], args := [d1, d2] }
  | _ => none }
def registerTransfersBackRow : OpenClaim := { program := "ythhmpdjjfoplgaa", sum := "5bb92355ed5f97e726d117a588a2277b99b0bce58fbf276fa57cda73b9fff762", func := "fundadmin/fundadminlaw25.RegisterTransfersBack", spec := "registerTransfersBack", inPlace := ["internal/bytealg.abigen_runtime_cmpstring", "slices.overlaps[fundadmin/api.Lot]"], unfollowed := true, recurses := true, apart := false }
def RegisterTransfersBackSaid : Prop := registerTransfersBackRow.holds Try.pinned (OpenSpec.ofChange registerTransfersBackSpec)

/-- ITS FALSE NEIGHBOUR: 'it returns false'. Refute it at one input. -/
def registerTransfersBackWrong : ChangeSpec := { name := "registerTransfersBack", fn := fun _ => fun
  | [d1, d2] => { results := [.lit (.bool false)], args := [d1, d2] }
  | _ => none }
def RegisterTransfersBackWrongFalsely : Prop := registerTransfersBackRow.holds Try.pinned (OpenSpec.ofChange registerTransfersBackWrong)

/-- 'fundadminlaw25.RegisterIsFull': WHATEVER THE INPUT: true; the input reads as it did. -/
def registerIsFullSpec : ChangeSpec := { name := "registerIsFull", fn := fun _ => fun
  | [d1, d2] => { results := [.lit (.bool true)], args := [d1, d2] }
  | _ => none }
def registerIsFullRow : OpenClaim := { program := "ythhmpdjjfoplgaa", sum := "5bb92355ed5f97e726d117a588a2277b99b0bce58fbf276fa57cda73b9fff762", func := "fundadmin/fundadminlaw25.RegisterIsFull", spec := "registerIsFull", inPlace := ["internal/bytealg.abigen_runtime_cmpstring", "slices.overlaps[fundadmin/api.Lot]"], unfollowed := true, recurses := true, apart := false }
def RegisterIsFullSaid : Prop := registerIsFullRow.holds Try.pinned (OpenSpec.ofChange registerIsFullSpec)

/-- ITS FALSE NEIGHBOUR: 'it returns false'. Refute it at one input. -/
def registerIsFullWrong : ChangeSpec := { name := "registerIsFull", fn := fun _ => fun
  | [d1, d2] => { results := [.lit (.bool false)], args := [d1, d2] }
  | _ => none }
def RegisterIsFullWrongFalsely : Prop := registerIsFullRow.holds Try.pinned (OpenSpec.ofChange registerIsFullWrong)

/-- 'fundadminlaw25.RegisterOfMadeLots': WHATEVER THE INPUT: true; the input reads as it did. -/
def registerOfMadeLotsSpec : ChangeSpec := { name := "registerOfMadeLots", fn := fun _ => fun
  | [d] => { results := [.lit (.bool true)], args := [d] }
  | _ => none }
def registerOfMadeLotsRow : OpenClaim := { program := "ythhmpdjjfoplgaa", sum := "5bb92355ed5f97e726d117a588a2277b99b0bce58fbf276fa57cda73b9fff762", func := "fundadmin/fundadminlaw25.RegisterOfMadeLots", spec := "registerOfMadeLots", inPlace := ["internal/bytealg.abigen_runtime_cmpstring", "slices.overlaps[fundadmin/api.Lot]"], unfollowed := true, recurses := true, apart := false }
def RegisterOfMadeLotsSaid : Prop := registerOfMadeLotsRow.holds Try.pinned (OpenSpec.ofChange registerOfMadeLotsSpec)

/-- ITS FALSE NEIGHBOUR: 'it returns false'. Refute it at one input. -/
def registerOfMadeLotsWrong : ChangeSpec := { name := "registerOfMadeLots", fn := fun _ => fun
  | [d] => { results := [.lit (.bool false)], args := [d] }
  | _ => none }
def RegisterOfMadeLotsWrongFalsely : Prop := registerOfMadeLotsRow.holds Try.pinned (OpenSpec.ofChange registerOfMadeLotsWrong)

/-- 'fundadminlaw25.RegisterKeepsUnits': WHATEVER THE INPUT: true; the input reads as it did. -/
def registerKeepsUnitsSpec : ChangeSpec := { name := "registerKeepsUnits", fn := fun _ => fun
  | [d] => { results := [.lit (.bool true)], args := [d] }
  | _ => none }
def registerKeepsUnitsRow : OpenClaim := { program := "ythhmpdjjfoplgaa", sum := "5bb92355ed5f97e726d117a588a2277b99b0bce58fbf276fa57cda73b9fff762", func := "fundadmin/fundadminlaw25.RegisterKeepsUnits", spec := "registerKeepsUnits", inPlace := ["internal/bytealg.abigen_runtime_cmpstring", "slices.overlaps[fundadmin/api.Lot]"], unfollowed := true, recurses := true, apart := false }
def RegisterKeepsUnitsSaid : Prop := registerKeepsUnitsRow.holds Try.pinned (OpenSpec.ofChange registerKeepsUnitsSpec)

/-- ITS FALSE NEIGHBOUR: 'it returns false'. Refute it at one input. -/
def registerKeepsUnitsWrong : ChangeSpec := { name := "registerKeepsUnits", fn := fun _ => fun
  | [d] => { results := [.lit (.bool false)], args := [d] }
  | _ => none }
def RegisterKeepsUnitsWrongFalsely : Prop := registerKeepsUnitsRow.holds Try.pinned (OpenSpec.ofChange registerKeepsUnitsWrong)

/- THE SECOND FORM. 'bulk': how many values and letters a reading holds, each counted each time it is reached (what is shared counts as often as it is met; a slice's spare places count too). A statement '..UptoSaid' is the law's where the arguments, and the package variables that the reading takes, are together of bulk at most 1048576: NARROWER than '..Said'. Prove '..Said' where nothing that the law and all that it calls make is longer than what came in: it says more and counts as full. Else prove '..UptoSaid'. A law counts once. -/
mutual
def uptoBulk {H : Type} : DataW H → Nat
  | .lit (.string bytes) => bytes.length + 1
  | .lit _ => 1
  | .nil => 1
  | .ptr d => uptoBulk d + 1
  | .slice elems spare => uptoBulkAll elems + uptoBulkAll spare + 1
  | .agg parts => uptoBulkAll parts + 1
  | .iface _ d => uptoBulk d + 1
  | .map entries => uptoBulkEntries entries + 1
  | .held _ => 1
def uptoBulkAll {H : Type} : List (DataW H) → Nat
  | [] => 0
  | d :: r => uptoBulk d + uptoBulkAll r
def uptoBulkEntries {H : Type} : List (Lit × DataW H) → Nat
  | [] => 0
  | x :: r => uptoBulkEntry x + uptoBulkEntries r
def uptoBulkEntry {H : Type} : Lit × DataW H → Nat
  | (.string bytes, d) => bytes.length + uptoBulk d + 1
  | (_, d) => uptoBulk d + 1
 end
def uptoSmall : (H : Type) → List (DataW H) → Bool := fun _ ds => decide (uptoBulkAll ds ≤ 1048576)
def OpenSpec.upto (s : _root_.Go.ChangeSpec) : _root_.Go.OpenSpec := { _root_.Go.OpenSpec.ofChange s with cond := some uptoSmall }

/-- 'fundadminlaw25.RegisterRedeems', WHERE WHAT IT READS IS OF BULK AT MOST 1048576: true; the input reads as it did. -/
def registerRedeemsUptoRow : OpenClaim := { program := "ythhmpdjjfoplgaa", sum := "5bb92355ed5f97e726d117a588a2277b99b0bce58fbf276fa57cda73b9fff762", func := "fundadmin/fundadminlaw25.RegisterRedeems", spec := "registerRedeems", inPlace := ["internal/bytealg.abigen_runtime_cmpstring", "slices.overlaps[fundadmin/api.Lot]"], unfollowed := true, recurses := true, apart := false, narrowed := true }
def RegisterRedeemsUptoSaid : Prop := registerRedeemsUptoRow.holds Try.pinned (OpenSpec.upto registerRedeemsSpec)

/-- 'fundadminlaw25.RegisterTakesTheOldestFirst', WHERE WHAT IT READS IS OF BULK AT MOST 1048576: true; the input reads as it did. -/
def registerTakesTheOldestFirstUptoRow : OpenClaim := { program := "ythhmpdjjfoplgaa", sum := "5bb92355ed5f97e726d117a588a2277b99b0bce58fbf276fa57cda73b9fff762", func := "fundadmin/fundadminlaw25.RegisterTakesTheOldestFirst", spec := "registerTakesTheOldestFirst", inPlace := ["internal/bytealg.abigen_runtime_cmpstring", "slices.overlaps[fundadmin/api.Lot]"], unfollowed := true, recurses := true, apart := false, narrowed := true }
def RegisterTakesTheOldestFirstUptoSaid : Prop := registerTakesTheOldestFirstUptoRow.holds Try.pinned (OpenSpec.upto registerTakesTheOldestFirstSpec)

/-- 'fundadminlaw25.RegisterTells', WHERE WHAT IT READS IS OF BULK AT MOST 1048576: true; the input reads as it did. -/
def registerTellsUptoRow : OpenClaim := { program := "ythhmpdjjfoplgaa", sum := "5bb92355ed5f97e726d117a588a2277b99b0bce58fbf276fa57cda73b9fff762", func := "fundadmin/fundadminlaw25.RegisterTells", spec := "registerTells", inPlace := ["internal/bytealg.abigen_runtime_cmpstring", "slices.overlaps[fundadmin/api.Lot]"], unfollowed := true, recurses := true, apart := false, narrowed := true }
def RegisterTellsUptoSaid : Prop := registerTellsUptoRow.holds Try.pinned (OpenSpec.upto registerTellsSpec)

/-- 'fundadminlaw25.RegisterIssues', WHERE WHAT IT READS IS OF BULK AT MOST 1048576: true; the input reads as it did. -/
def registerIssuesUptoRow : OpenClaim := { program := "ythhmpdjjfoplgaa", sum := "5bb92355ed5f97e726d117a588a2277b99b0bce58fbf276fa57cda73b9fff762", func := "fundadmin/fundadminlaw25.RegisterIssues", spec := "registerIssues", inPlace := ["internal/bytealg.abigen_runtime_cmpstring", "slices.overlaps[fundadmin/api.Lot]"], unfollowed := true, recurses := true, apart := false, narrowed := true }
def RegisterIssuesUptoSaid : Prop := registerIssuesUptoRow.holds Try.pinned (OpenSpec.upto registerIssuesSpec)

/-- 'fundadminlaw25.RegisterTransfers', WHERE WHAT IT READS IS OF BULK AT MOST 1048576: true; the input reads as it did. -/
def registerTransfersUptoRow : OpenClaim := { program := "ythhmpdjjfoplgaa", sum := "5bb92355ed5f97e726d117a588a2277b99b0bce58fbf276fa57cda73b9fff762", func := "fundadmin/fundadminlaw25.RegisterTransfers", spec := "registerTransfers", inPlace := ["internal/bytealg.abigen_runtime_cmpstring", "slices.overlaps[fundadmin/api.Lot]"], unfollowed := true, recurses := true, apart := false, narrowed := true }
def RegisterTransfersUptoSaid : Prop := registerTransfersUptoRow.holds Try.pinned (OpenSpec.upto registerTransfersSpec)

/-- 'fundadminlaw25.RegisterTransfersBack', WHERE WHAT IT READS IS OF BULK AT MOST 1048576: true; the input reads as it did. -/
def registerTransfersBackUptoRow : OpenClaim := { program := "ythhmpdjjfoplgaa", sum := "5bb92355ed5f97e726d117a588a2277b99b0bce58fbf276fa57cda73b9fff762", func := "fundadmin/fundadminlaw25.RegisterTransfersBack", spec := "registerTransfersBack", inPlace := ["internal/bytealg.abigen_runtime_cmpstring", "slices.overlaps[fundadmin/api.Lot]"], unfollowed := true, recurses := true, apart := false, narrowed := true }
def RegisterTransfersBackUptoSaid : Prop := registerTransfersBackUptoRow.holds Try.pinned (OpenSpec.upto registerTransfersBackSpec)

/-- 'fundadminlaw25.RegisterIsFull', WHERE WHAT IT READS IS OF BULK AT MOST 1048576: true; the input reads as it did. -/
def registerIsFullUptoRow : OpenClaim := { program := "ythhmpdjjfoplgaa", sum := "5bb92355ed5f97e726d117a588a2277b99b0bce58fbf276fa57cda73b9fff762", func := "fundadmin/fundadminlaw25.RegisterIsFull", spec := "registerIsFull", inPlace := ["internal/bytealg.abigen_runtime_cmpstring", "slices.overlaps[fundadmin/api.Lot]"], unfollowed := true, recurses := true, apart := false, narrowed := true }
def RegisterIsFullUptoSaid : Prop := registerIsFullUptoRow.holds Try.pinned (OpenSpec.upto registerIsFullSpec)

/-- 'fundadminlaw25.RegisterOfMadeLots', WHERE WHAT IT READS IS OF BULK AT MOST 1048576: true; the input reads as it did. -/
def registerOfMadeLotsUptoRow : OpenClaim := { program := "ythhmpdjjfoplgaa", sum := "5bb92355ed5f97e726d117a588a2277b99b0bce58fbf276fa57cda73b9fff762", func := "fundadmin/fundadminlaw25.RegisterOfMadeLots", spec := "registerOfMadeLots", inPlace := ["internal/bytealg.abigen_runtime_cmpstring", "slices.overlaps[fundadmin/api.Lot]"], unfollowed := true, recurses := true, apart := false, narrowed := true }
def RegisterOfMadeLotsUptoSaid : Prop := registerOfMadeLotsUptoRow.holds Try.pinned (OpenSpec.upto registerOfMadeLotsSpec)

/-- 'fundadminlaw25.RegisterKeepsUnits', WHERE WHAT IT READS IS OF BULK AT MOST 1048576: true; the input reads as it did. -/
def registerKeepsUnitsUptoRow : OpenClaim := { program := "ythhmpdjjfoplgaa", sum := "5bb92355ed5f97e726d117a588a2277b99b0bce58fbf276fa57cda73b9fff762", func := "fundadmin/fundadminlaw25.RegisterKeepsUnits", spec := "registerKeepsUnits", inPlace := ["internal/bytealg.abigen_runtime_cmpstring", "slices.overlaps[fundadmin/api.Lot]"], unfollowed := true, recurses := true, apart := false, narrowed := true }
def RegisterKeepsUnitsUptoSaid : Prop := registerKeepsUnitsUptoRow.holds Try.pinned (OpenSpec.upto registerKeepsUnitsSpec)

end Rows
end Go.Proofs.Ythhmpdjjfoplgaa
