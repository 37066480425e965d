/-
  No cell of these rows narrows 'for every input' (looked for: loops, veiled, ifaces, maps, wideKeys, modest, calm, conditions, laid).
  DERIVED. THE GIVEN ROWS OF THIS SEAT. 7 by the template 'for every input the law returns true; each argument reads behind the call as it read before'; 0 by the template 'total and deterministic' (their statements: YtnkmhbiklffjlaaTotals.lean).
  GIVEN WITH THE SEED: the statements are not yours to turn. If you find one false, say at which input.
  Laid BY PROGRAM, IN A SANDBOX (cutbox-rows.mjs): the forced cells as the released guide's own fill.sh prints them over the translation 1af68045e061a6aa… (all of the seat's roots in one cut). By AI agents, Wed Nov 11 2026. No macro, syntax, notation, axiom, sorry.
-/
import Derived.Test.YtnkmhbiklffjlaaChecked
import GoSem.Claim
import GoSem.ClaimJoined
import GoSem.ClaimMapViews
import Derived.JoinedTies
import Derived.KernelRfl
namespace Go.Proofs.Ytnkmhbiklffjlaa
/- THE CELL 'sum', in the pinned program and in every row, IS THE sha256 OF THE DUMP (.gsa) THAT YtnkmhbiklffjlaaProg.lean LOADS. Nothing in Lean hashes anything: it is a label: what it is worth is what the hold of that sum in a sandbox is worth. -/
noncomputable def Try.pinned : Pinned := { name := "ytnkmhbiklffjlaa", sum := "1af68045e061a6aab4d62ed37a466cbb00e62a178ada9ff93112d748754b782b", checked := Try.checked }
namespace Rows
def none {H : Type} : Left H := { results := [], args := [] }

/-- 'fundadminlaw04.ApportionExact': WHATEVER THE INPUT: true; the input reads as it did. -/
def apportionExactSpec : ChangeSpec := { name := "apportionExact", fn := fun _ => fun
  | [d1, d2] => { results := [.lit (.bool true)], args := [d1, d2] }
  | _ => none }
def apportionExactRow : OpenClaim := { program := "ytnkmhbiklffjlaa", sum := "1af68045e061a6aab4d62ed37a466cbb00e62a178ada9ff93112d748754b782b", func := "fundadmin/fundadminlaw04.ApportionExact", spec := "apportionExact", unfollowed := true, recurses := true, named := ["math/bits.divideError", "math/bits.overflowError"], apart := false }
def ApportionExactSaid : Prop := apportionExactRow.holds Try.pinned (OpenSpec.ofChange apportionExactSpec)

/-- ITS FALSE NEIGHBOUR: 'it returns false'. Refute it at one input. -/
def apportionExactWrong : ChangeSpec := { name := "apportionExact", fn := fun _ => fun
  | [d1, d2] => { results := [.lit (.bool false)], args := [d1, d2] }
  | _ => none }
def ApportionExactWrongFalsely : Prop := apportionExactRow.holds Try.pinned (OpenSpec.ofChange apportionExactWrong)

/-- 'fundadminlaw04.ApportionPlays': WHATEVER THE INPUT: true; the input reads as it did. -/
def apportionPlaysSpec : ChangeSpec := { name := "apportionPlays", fn := fun _ => fun
  | [d] => { results := [.lit (.bool true)], args := [d] }
  | _ => none }
def apportionPlaysRow : OpenClaim := { program := "ytnkmhbiklffjlaa", sum := "1af68045e061a6aab4d62ed37a466cbb00e62a178ada9ff93112d748754b782b", func := "fundadmin/fundadminlaw04.ApportionPlays", spec := "apportionPlays", unfollowed := true, recurses := true, named := ["math/bits.divideError", "math/bits.overflowError"], apart := false }
def ApportionPlaysSaid : Prop := apportionPlaysRow.holds Try.pinned (OpenSpec.ofChange apportionPlaysSpec)

/-- ITS FALSE NEIGHBOUR: 'it returns false'. Refute it at one input. -/
def apportionPlaysWrong : ChangeSpec := { name := "apportionPlays", fn := fun _ => fun
  | [d] => { results := [.lit (.bool false)], args := [d] }
  | _ => none }
def ApportionPlaysWrongFalsely : Prop := apportionPlaysRow.holds Try.pinned (OpenSpec.ofChange apportionPlaysWrong)

/-- 'fundadminlaw04.ApportionSums': WHATEVER THE INPUT: true; the input reads as it did. -/
def apportionSumsSpec : ChangeSpec := { name := "apportionSums", fn := fun _ => fun
  | [d] => { results := [.lit (.bool true)], args := [d] }
  | _ => none }
def apportionSumsRow : OpenClaim := { program := "ytnkmhbiklffjlaa", sum := "1af68045e061a6aab4d62ed37a466cbb00e62a178ada9ff93112d748754b782b", func := "fundadmin/fundadminlaw04.ApportionSums", spec := "apportionSums", unfollowed := true, recurses := true, named := ["math/bits.divideError", "math/bits.overflowError"], apart := false }
def ApportionSumsSaid : Prop := apportionSumsRow.holds Try.pinned (OpenSpec.ofChange apportionSumsSpec)

/-- ITS FALSE NEIGHBOUR: 'it returns false'. Refute it at one input. -/
def apportionSumsWrong : ChangeSpec := { name := "apportionSums", fn := fun _ => fun
  | [d] => { results := [.lit (.bool false)], args := [d] }
  | _ => none }
def ApportionSumsWrongFalsely : Prop := apportionSumsRow.holds Try.pinned (OpenSpec.ofChange apportionSumsWrong)

/-- 'fundadminlaw04.ApportionFair': WHATEVER THE INPUT: true; the input reads as it did. -/
def apportionFairSpec : ChangeSpec := { name := "apportionFair", fn := fun _ => fun
  | [d] => { results := [.lit (.bool true)], args := [d] }
  | _ => none }
def apportionFairRow : OpenClaim := { program := "ytnkmhbiklffjlaa", sum := "1af68045e061a6aab4d62ed37a466cbb00e62a178ada9ff93112d748754b782b", func := "fundadmin/fundadminlaw04.ApportionFair", spec := "apportionFair", unfollowed := true, recurses := true, named := ["math/bits.divideError", "math/bits.overflowError"], apart := false }
def ApportionFairSaid : Prop := apportionFairRow.holds Try.pinned (OpenSpec.ofChange apportionFairSpec)

/-- ITS FALSE NEIGHBOUR: 'it returns false'. Refute it at one input. -/
def apportionFairWrong : ChangeSpec := { name := "apportionFair", fn := fun _ => fun
  | [d] => { results := [.lit (.bool false)], args := [d] }
  | _ => none }
def ApportionFairWrongFalsely : Prop := apportionFairRow.holds Try.pinned (OpenSpec.ofChange apportionFairWrong)

/-- 'fundadminlaw04.ApportionCaps': WHATEVER THE INPUT: true; the input reads as it did. -/
def apportionCapsSpec : ChangeSpec := { name := "apportionCaps", fn := fun _ => fun
  | [d] => { results := [.lit (.bool true)], args := [d] }
  | _ => none }
def apportionCapsRow : OpenClaim := { program := "ytnkmhbiklffjlaa", sum := "1af68045e061a6aab4d62ed37a466cbb00e62a178ada9ff93112d748754b782b", func := "fundadmin/fundadminlaw04.ApportionCaps", spec := "apportionCaps", unfollowed := true, recurses := true, named := ["math/bits.divideError", "math/bits.overflowError"], apart := false }
def ApportionCapsSaid : Prop := apportionCapsRow.holds Try.pinned (OpenSpec.ofChange apportionCapsSpec)

/-- ITS FALSE NEIGHBOUR: 'it returns false'. Refute it at one input. -/
def apportionCapsWrong : ChangeSpec := { name := "apportionCaps", fn := fun _ => fun
  | [d] => { results := [.lit (.bool false)], args := [d] }
  | _ => none }
def ApportionCapsWrongFalsely : Prop := apportionCapsRow.holds Try.pinned (OpenSpec.ofChange apportionCapsWrong)

/-- 'fundadminlaw04.ApportionScales': WHATEVER THE INPUT: true; the input reads as it did. -/
def apportionScalesSpec : ChangeSpec := { name := "apportionScales", fn := fun _ => fun
  | [d] => { results := [.lit (.bool true)], args := [d] }
  | _ => none }
def apportionScalesRow : OpenClaim := { program := "ytnkmhbiklffjlaa", sum := "1af68045e061a6aab4d62ed37a466cbb00e62a178ada9ff93112d748754b782b", func := "fundadmin/fundadminlaw04.ApportionScales", spec := "apportionScales", unfollowed := true, recurses := true, named := ["math/bits.divideError", "math/bits.overflowError"], apart := false }
def ApportionScalesSaid : Prop := apportionScalesRow.holds Try.pinned (OpenSpec.ofChange apportionScalesSpec)

/-- ITS FALSE NEIGHBOUR: 'it returns false'. Refute it at one input. -/
def apportionScalesWrong : ChangeSpec := { name := "apportionScales", fn := fun _ => fun
  | [d] => { results := [.lit (.bool false)], args := [d] }
  | _ => none }
def ApportionScalesWrongFalsely : Prop := apportionScalesRow.holds Try.pinned (OpenSpec.ofChange apportionScalesWrong)

/-- 'fundadminlaw04.ApportionGroups': WHATEVER THE INPUT: true; the input reads as it did. -/
def apportionGroupsSpec : ChangeSpec := { name := "apportionGroups", fn := fun _ => fun
  | [d] => { results := [.lit (.bool true)], args := [d] }
  | _ => none }
def apportionGroupsRow : OpenClaim := { program := "ytnkmhbiklffjlaa", sum := "1af68045e061a6aab4d62ed37a466cbb00e62a178ada9ff93112d748754b782b", func := "fundadmin/fundadminlaw04.ApportionGroups", spec := "apportionGroups", unfollowed := true, recurses := true, named := ["math/bits.divideError", "math/bits.overflowError"], apart := false }
def ApportionGroupsSaid : Prop := apportionGroupsRow.holds Try.pinned (OpenSpec.ofChange apportionGroupsSpec)

/-- ITS FALSE NEIGHBOUR: 'it returns false'. Refute it at one input. -/
def apportionGroupsWrong : ChangeSpec := { name := "apportionGroups", fn := fun _ => fun
  | [d] => { results := [.lit (.bool false)], args := [d] }
  | _ => none }
def ApportionGroupsWrongFalsely : Prop := apportionGroupsRow.holds Try.pinned (OpenSpec.ofChange apportionGroupsWrong)

/- THE SECOND FORM. 'bulk': how many values and letters a reading holds, each counted each time it is reached (what is shared counts as often as it is met; a slice's spare places count too). A statement '..UptoSaid' is the law's where the arguments, and the package variables that the reading takes, are together of bulk at most 1048576: NARROWER than '..Said'. Prove '..Said' where nothing that the law and all that it calls make is longer than what came in: it says more and counts as full. Else prove '..UptoSaid'. A law counts once. -/
mutual
def uptoBulk {H : Type} : DataW H → Nat
  | .lit (.string bytes) => bytes.length + 1
  | .lit _ => 1
  | .nil => 1
  | .ptr d => uptoBulk d + 1
  | .slice elems spare => uptoBulkAll elems + uptoBulkAll spare + 1
  | .agg parts => uptoBulkAll parts + 1
  | .iface _ d => uptoBulk d + 1
  | .map entries => uptoBulkEntries entries + 1
  | .held _ => 1
def uptoBulkAll {H : Type} : List (DataW H) → Nat
  | [] => 0
  | d :: r => uptoBulk d + uptoBulkAll r
def uptoBulkEntries {H : Type} : List (Lit × DataW H) → Nat
  | [] => 0
  | x :: r => uptoBulkEntry x + uptoBulkEntries r
def uptoBulkEntry {H : Type} : Lit × DataW H → Nat
  | (.string bytes, d) => bytes.length + uptoBulk d + 1
  | (_, d) => uptoBulk d + 1
 end
def uptoSmall : (H : Type) → List (DataW H) → Bool := fun _ ds => decide (uptoBulkAll ds ≤ 1048576)
def OpenSpec.upto (s : _root_.Go.ChangeSpec) : _root_.Go.OpenSpec := { _root_.Go.OpenSpec.ofChange s with cond := some uptoSmall }

/-- 'fundadminlaw04.ApportionExact', WHERE WHAT IT READS IS OF BULK AT MOST 1048576: true; the input reads as it did. -/
def apportionExactUptoRow : OpenClaim := { program := "ytnkmhbiklffjlaa", sum := "1af68045e061a6aab4d62ed37a466cbb00e62a178ada9ff93112d748754b782b", func := "fundadmin/fundadminlaw04.ApportionExact", spec := "apportionExact", unfollowed := true, recurses := true, named := ["math/bits.divideError", "math/bits.overflowError"], apart := false, narrowed := true }
def ApportionExactUptoSaid : Prop := apportionExactUptoRow.holds Try.pinned (OpenSpec.upto apportionExactSpec)

/-- 'fundadminlaw04.ApportionPlays', WHERE WHAT IT READS IS OF BULK AT MOST 1048576: true; the input reads as it did. -/
def apportionPlaysUptoRow : OpenClaim := { program := "ytnkmhbiklffjlaa", sum := "1af68045e061a6aab4d62ed37a466cbb00e62a178ada9ff93112d748754b782b", func := "fundadmin/fundadminlaw04.ApportionPlays", spec := "apportionPlays", unfollowed := true, recurses := true, named := ["math/bits.divideError", "math/bits.overflowError"], apart := false, narrowed := true }
def ApportionPlaysUptoSaid : Prop := apportionPlaysUptoRow.holds Try.pinned (OpenSpec.upto apportionPlaysSpec)

/-- 'fundadminlaw04.ApportionSums', WHERE WHAT IT READS IS OF BULK AT MOST 1048576: true; the input reads as it did. -/
def apportionSumsUptoRow : OpenClaim := { program := "ytnkmhbiklffjlaa", sum := "1af68045e061a6aab4d62ed37a466cbb00e62a178ada9ff93112d748754b782b", func := "fundadmin/fundadminlaw04.ApportionSums", spec := "apportionSums", unfollowed := true, recurses := true, named := ["math/bits.divideError", "math/bits.overflowError"], apart := false, narrowed := true }
def ApportionSumsUptoSaid : Prop := apportionSumsUptoRow.holds Try.pinned (OpenSpec.upto apportionSumsSpec)

/-- 'fundadminlaw04.ApportionFair', WHERE WHAT IT READS IS OF BULK AT MOST 1048576: true; the input reads as it did. -/
def apportionFairUptoRow : OpenClaim := { program := "ytnkmhbiklffjlaa", sum := "1af68045e061a6aab4d62ed37a466cbb00e62a178ada9ff93112d748754b782b", func := "fundadmin/fundadminlaw04.ApportionFair", spec := "apportionFair", unfollowed := true, recurses := true, named := ["math/bits.divideError", "math/bits.overflowError"], apart := false, narrowed := true }
def ApportionFairUptoSaid : Prop := apportionFairUptoRow.holds Try.pinned (OpenSpec.upto apportionFairSpec)

/-- 'fundadminlaw04.ApportionCaps', WHERE WHAT IT READS IS OF BULK AT MOST 1048576: true; the input reads as it did. -/
def apportionCapsUptoRow : OpenClaim := { program := "ytnkmhbiklffjlaa", sum := "1af68045e061a6aab4d62ed37a466cbb00e62a178ada9ff93112d748754b782b", func := "fundadmin/fundadminlaw04.ApportionCaps", spec := "apportionCaps", unfollowed := true, recurses := true, named := ["math/bits.divideError", "math/bits.overflowError"], apart := false, narrowed := true }
def ApportionCapsUptoSaid : Prop := apportionCapsUptoRow.holds Try.pinned (OpenSpec.upto apportionCapsSpec)

/-- 'fundadminlaw04.ApportionScales', WHERE WHAT IT READS IS OF BULK AT MOST 1048576: true; the input reads as it did. -/
def apportionScalesUptoRow : OpenClaim := { program := "ytnkmhbiklffjlaa", sum := "1af68045e061a6aab4d62ed37a466cbb00e62a178ada9ff93112d748754b782b", func := "fundadmin/fundadminlaw04.ApportionScales", spec := "apportionScales", unfollowed := true, recurses := true, named := ["math/bits.divideError", "math/bits.overflowError"], apart := false, narrowed := true }
def ApportionScalesUptoSaid : Prop := apportionScalesUptoRow.holds Try.pinned (OpenSpec.upto apportionScalesSpec)

/-- 'fundadminlaw04.ApportionGroups', WHERE WHAT IT READS IS OF BULK AT MOST 1048576: true; the input reads as it did. -/
def apportionGroupsUptoRow : OpenClaim := { program := "ytnkmhbiklffjlaa", sum := "1af68045e061a6aab4d62ed37a466cbb00e62a178ada9ff93112d748754b782b", func := "fundadmin/fundadminlaw04.ApportionGroups", spec := "apportionGroups", unfollowed := true, recurses := true, named := ["math/bits.divideError", "math/bits.overflowError"], apart := false, narrowed := true }
def ApportionGroupsUptoSaid : Prop := apportionGroupsUptoRow.holds Try.pinned (OpenSpec.upto apportionGroupsSpec)

end Rows
end Go.Proofs.Ytnkmhbiklffjlaa
