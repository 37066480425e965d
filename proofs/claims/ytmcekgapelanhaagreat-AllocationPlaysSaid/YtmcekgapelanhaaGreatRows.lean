/-
  No cell of these rows narrows 'for every input' (looked for: loops, veiled, ifaces, maps, wideKeys, modest, calm, conditions, laid).
  DERIVED. THE GIVEN ROWS OF THIS SEAT. 4 by the template 'for every input the law returns true; each argument reads behind the call as it read before'; 0 by the template 'total and deterministic' (their statements: YtmcekgapelanhaaGreatTotals.lean).
  GIVEN WITH THE SEED: the statements are not yours to turn. If you find one false, say at which input.
  Laid BY PROGRAM, IN A SANDBOX (cutbox-rows.mjs): the forced cells as the released guide's own fill.sh prints them over the translation a5c07ae0eaec1432… (all of the seat's roots in one cut). By AI agents, Wed Nov 11 2026. No macro, syntax, notation, axiom, sorry.
-/
import Derived.Test.YtmcekgapelanhaaGreatChecked
import GoSem.Claim
import GoSem.ClaimJoined
import GoSem.ClaimMapViews
import Derived.JoinedTies
import Derived.KernelRfl
namespace Go.Proofs.YtmcekgapelanhaaGreat
/- THE CELL 'sum', in the pinned program and in every row, IS THE sha256 OF THE DUMP (.gsa) THAT YtmcekgapelanhaaGreatProg.lean LOADS. Nothing in Lean hashes anything: it is a label: what it is worth is what the hold of that sum in a sandbox is worth. -/
noncomputable def Tryz.pinned : Pinned := { name := "ytmcekgapelanhaagreat", sum := "a5c07ae0eaec14326fb815c6f7e0d6b784c9dddb715dd3acb35eb5805aaae9d8", checked := Tryz.checked }
namespace Rows
def none {H : Type} : Left H := { results := [], args := [] }

/-- 'fundadminlaw21.AllocationExact': WHATEVER THE INPUT: true; the input reads as it did. -/
def allocationExactSpec : ChangeSpec := { name := "allocationExact", fn := fun _ => fun
  | [d1, d2, d3] => { results := [.lit (.bool true)], args := [d1, d2, d3] }
  | _ => none }
def allocationExactRow : OpenClaim := { program := "ytmcekgapelanhaagreat", sum := "a5c07ae0eaec14326fb815c6f7e0d6b784c9dddb715dd3acb35eb5805aaae9d8", func := "fundadmin/fundadminlaw21.AllocationExact", spec := "allocationExact", unfollowed := true, recurses := true, named := ["math/bits.divideError", "math/bits.overflowError"], apart := false }
def AllocationExactSaid : Prop := allocationExactRow.holds Tryz.pinned (OpenSpec.ofChange allocationExactSpec)

/-- ITS FALSE NEIGHBOUR: 'it returns false'. Refute it at one input. -/
def allocationExactWrong : ChangeSpec := { name := "allocationExact", fn := fun _ => fun
  | [d1, d2, d3] => { results := [.lit (.bool false)], args := [d1, d2, d3] }
  | _ => none }
def AllocationExactWrongFalsely : Prop := allocationExactRow.holds Tryz.pinned (OpenSpec.ofChange allocationExactWrong)

/-- 'fundadminlaw21.AllocationPlays': WHATEVER THE INPUT: true; the input reads as it did. -/
def allocationPlaysSpec : ChangeSpec := { name := "allocationPlays", fn := fun _ => fun
  | [d] => { results := [.lit (.bool true)], args := [d] }
  | _ => none }
def allocationPlaysRow : OpenClaim := { program := "ytmcekgapelanhaagreat", sum := "a5c07ae0eaec14326fb815c6f7e0d6b784c9dddb715dd3acb35eb5805aaae9d8", func := "fundadmin/fundadminlaw21.AllocationPlays", spec := "allocationPlays", unfollowed := true, recurses := true, named := ["math/bits.divideError", "math/bits.overflowError"], apart := false }
def AllocationPlaysSaid : Prop := allocationPlaysRow.holds Tryz.pinned (OpenSpec.ofChange allocationPlaysSpec)

/-- ITS FALSE NEIGHBOUR: 'it returns false'. Refute it at one input. -/
def allocationPlaysWrong : ChangeSpec := { name := "allocationPlays", fn := fun _ => fun
  | [d] => { results := [.lit (.bool false)], args := [d] }
  | _ => none }
def AllocationPlaysWrongFalsely : Prop := allocationPlaysRow.holds Tryz.pinned (OpenSpec.ofChange allocationPlaysWrong)

/-- 'fundadminlaw21.AllocationSpoilt': WHATEVER THE INPUT: true; the input reads as it did. -/
def allocationSpoiltSpec : ChangeSpec := { name := "allocationSpoilt", fn := fun _ => fun
  | [d1, d2] => { results := [.lit (.bool true)], args := [d1, d2] }
  | _ => none }
def allocationSpoiltRow : OpenClaim := { program := "ytmcekgapelanhaagreat", sum := "a5c07ae0eaec14326fb815c6f7e0d6b784c9dddb715dd3acb35eb5805aaae9d8", func := "fundadmin/fundadminlaw21.AllocationSpoilt", spec := "allocationSpoilt", unfollowed := true, recurses := true, named := ["math/bits.divideError", "math/bits.overflowError"], apart := false }
def AllocationSpoiltSaid : Prop := allocationSpoiltRow.holds Tryz.pinned (OpenSpec.ofChange allocationSpoiltSpec)

/-- ITS FALSE NEIGHBOUR: 'it returns false'. Refute it at one input. -/
def allocationSpoiltWrong : ChangeSpec := { name := "allocationSpoilt", fn := fun _ => fun
  | [d1, d2] => { results := [.lit (.bool false)], args := [d1, d2] }
  | _ => none }
def AllocationSpoiltWrongFalsely : Prop := allocationSpoiltRow.holds Tryz.pinned (OpenSpec.ofChange allocationSpoiltWrong)

/-- 'fundadminlaw21.AllocationSums': WHATEVER THE INPUT: true; the input reads as it did. -/
def allocationSumsSpec : ChangeSpec := { name := "allocationSums", fn := fun _ => fun
  | [d] => { results := [.lit (.bool true)], args := [d] }
  | _ => none }
def allocationSumsRow : OpenClaim := { program := "ytmcekgapelanhaagreat", sum := "a5c07ae0eaec14326fb815c6f7e0d6b784c9dddb715dd3acb35eb5805aaae9d8", func := "fundadmin/fundadminlaw21.AllocationSums", spec := "allocationSums", unfollowed := true, recurses := true, named := ["math/bits.divideError", "math/bits.overflowError"], apart := false }
def AllocationSumsSaid : Prop := allocationSumsRow.holds Tryz.pinned (OpenSpec.ofChange allocationSumsSpec)

/-- ITS FALSE NEIGHBOUR: 'it returns false'. Refute it at one input. -/
def allocationSumsWrong : ChangeSpec := { name := "allocationSums", fn := fun _ => fun
  | [d] => { results := [.lit (.bool false)], args := [d] }
  | _ => none }
def AllocationSumsWrongFalsely : Prop := allocationSumsRow.holds Tryz.pinned (OpenSpec.ofChange allocationSumsWrong)

/- THE SECOND FORM. 'bulk': how many values and letters a reading holds, each counted each time it is reached (what is shared counts as often as it is met; a slice's spare places count too). A statement '..UptoSaid' is the law's where the arguments, and the package variables that the reading takes, are together of bulk at most 1048576: NARROWER than '..Said'. Prove '..Said' where nothing that the law and all that it calls make is longer than what came in: it says more and counts as full. Else prove '..UptoSaid'. A law counts once. -/
mutual
def uptoBulk {H : Type} : DataW H → Nat
  | .lit (.string bytes) => bytes.length + 1
  | .lit _ => 1
  | .nil => 1
  | .ptr d => uptoBulk d + 1
  | .slice elems spare => uptoBulkAll elems + uptoBulkAll spare + 1
  | .agg parts => uptoBulkAll parts + 1
  | .iface _ d => uptoBulk d + 1
  | .map entries => uptoBulkEntries entries + 1
  | .held _ => 1
def uptoBulkAll {H : Type} : List (DataW H) → Nat
  | [] => 0
  | d :: r => uptoBulk d + uptoBulkAll r
def uptoBulkEntries {H : Type} : List (Lit × DataW H) → Nat
  | [] => 0
  | x :: r => uptoBulkEntry x + uptoBulkEntries r
def uptoBulkEntry {H : Type} : Lit × DataW H → Nat
  | (.string bytes, d) => bytes.length + uptoBulk d + 1
  | (_, d) => uptoBulk d + 1
 end
def uptoSmall : (H : Type) → List (DataW H) → Bool := fun _ ds => decide (uptoBulkAll ds ≤ 1048576)
def OpenSpec.upto (s : _root_.Go.ChangeSpec) : _root_.Go.OpenSpec := { _root_.Go.OpenSpec.ofChange s with cond := some uptoSmall }

/-- 'fundadminlaw21.AllocationExact', WHERE WHAT IT READS IS OF BULK AT MOST 1048576: true; the input reads as it did. -/
def allocationExactUptoRow : OpenClaim := { program := "ytmcekgapelanhaagreat", sum := "a5c07ae0eaec14326fb815c6f7e0d6b784c9dddb715dd3acb35eb5805aaae9d8", func := "fundadmin/fundadminlaw21.AllocationExact", spec := "allocationExact", unfollowed := true, recurses := true, named := ["math/bits.divideError", "math/bits.overflowError"], apart := false, narrowed := true }
def AllocationExactUptoSaid : Prop := allocationExactUptoRow.holds Tryz.pinned (OpenSpec.upto allocationExactSpec)

/-- 'fundadminlaw21.AllocationPlays', WHERE WHAT IT READS IS OF BULK AT MOST 1048576: true; the input reads as it did. -/
def allocationPlaysUptoRow : OpenClaim := { program := "ytmcekgapelanhaagreat", sum := "a5c07ae0eaec14326fb815c6f7e0d6b784c9dddb715dd3acb35eb5805aaae9d8", func := "fundadmin/fundadminlaw21.AllocationPlays", spec := "allocationPlays", unfollowed := true, recurses := true, named := ["math/bits.divideError", "math/bits.overflowError"], apart := false, narrowed := true }
def AllocationPlaysUptoSaid : Prop := allocationPlaysUptoRow.holds Tryz.pinned (OpenSpec.upto allocationPlaysSpec)

/-- 'fundadminlaw21.AllocationSpoilt', WHERE WHAT IT READS IS OF BULK AT MOST 1048576: true; the input reads as it did. -/
def allocationSpoiltUptoRow : OpenClaim := { program := "ytmcekgapelanhaagreat", sum := "a5c07ae0eaec14326fb815c6f7e0d6b784c9dddb715dd3acb35eb5805aaae9d8", func := "fundadmin/fundadminlaw21.AllocationSpoilt", spec := "allocationSpoilt", unfollowed := true, recurses := true, named := ["math/bits.divideError", "math/bits.overflowError"], apart := false, narrowed := true }
def AllocationSpoiltUptoSaid : Prop := allocationSpoiltUptoRow.holds Tryz.pinned (OpenSpec.upto allocationSpoiltSpec)

/-- 'fundadminlaw21.AllocationSums', WHERE WHAT IT READS IS OF BULK AT MOST 1048576: true; the input reads as it did. -/
def allocationSumsUptoRow : OpenClaim := { program := "ytmcekgapelanhaagreat", sum := "a5c07ae0eaec14326fb815c6f7e0d6b784c9dddb715dd3acb35eb5805aaae9d8", func := "fundadmin/fundadminlaw21.AllocationSums", spec := "allocationSums", unfollowed := true, recurses := true, named := ["math/bits.divideError", "math/bits.overflowError"], apart := false, narrowed := true }
def AllocationSumsUptoSaid : Prop := allocationSumsUptoRow.holds Tryz.pinned (OpenSpec.upto allocationSumsSpec)

end Rows
end Go.Proofs.YtmcekgapelanhaaGreat
