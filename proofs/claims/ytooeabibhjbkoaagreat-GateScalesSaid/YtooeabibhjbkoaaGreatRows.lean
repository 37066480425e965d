/-
  No cell of these rows narrows 'for every input' (looked for: loops, veiled, ifaces, maps, wideKeys, modest, calm, conditions, laid).
  DERIVED. THE GIVEN ROWS OF THIS SEAT. 6 by the template 'for every input the law returns true; each argument reads behind the call as it read before'; 0 by the template 'total and deterministic' (their statements: YtooeabibhjbkoaaGreatTotals.lean).
  GIVEN WITH THE SEED: the statements are not yours to turn. If you find one false, say at which input.
  Laid BY PROGRAM, IN A SANDBOX (cutbox-rows.mjs): the forced cells as the released guide's own fill.sh prints them over the translation 5f10314dddbbe740… (all of the seat's roots in one cut). By AI agents, Wed Nov 11 2026. No macro, syntax, notation, axiom, sorry.
-/
import Derived.Test.YtooeabibhjbkoaaGreatChecked
import GoSem.Claim
import GoSem.ClaimJoined
import GoSem.ClaimMapViews
import Derived.JoinedTies
import Derived.KernelRfl
namespace Go.Proofs.YtooeabibhjbkoaaGreat
/- THE CELL 'sum', in the pinned program and in every row, IS THE sha256 OF THE DUMP (.gsa) THAT YtooeabibhjbkoaaGreatProg.lean LOADS. Nothing in Lean hashes anything: it is a label: what it is worth is what the hold of that sum in a sandbox is worth. -/
noncomputable def Tryz.pinned : Pinned := { name := "ytooeabibhjbkoaagreat", sum := "5f10314dddbbe740865c24f32f77fcd681cb5ba7ad287ac551150b9805ac57f2", checked := Tryz.checked }
namespace Rows
def none {H : Type} : Left H := { results := [], args := [] }

/-- 'fundadminlaw27.GateTells': WHATEVER THE INPUT: true; the input reads as it did. -/
def gateTellsSpec : ChangeSpec := { name := "gateTells", fn := fun _ => fun
  | [d1, d2, d3] => { results := [.lit (.bool true)], args := [d1, d2, d3] }
  | _ => none }
def gateTellsRow : OpenClaim := { program := "ytooeabibhjbkoaagreat", sum := "5f10314dddbbe740865c24f32f77fcd681cb5ba7ad287ac551150b9805ac57f2", func := "fundadmin/fundadminlaw27.GateTells", spec := "gateTells", unfollowed := true, recurses := true, named := ["math/bits.overflowError", "math/bits.divideError"], apart := false }
def GateTellsSaid : Prop := gateTellsRow.holds Tryz.pinned (OpenSpec.ofChange gateTellsSpec)

/-- ITS FALSE NEIGHBOUR: 'it returns false'. Refute it at one input. -/
def gateTellsWrong : ChangeSpec := { name := "gateTells", fn := fun _ => fun
  | [d1, d2, d3] => { results := [.lit (.bool false)], args := [d1, d2, d3] }
  | _ => none }
def GateTellsWrongFalsely : Prop := gateTellsRow.holds Tryz.pinned (OpenSpec.ofChange gateTellsWrong)

/-- 'fundadminlaw27.GateScales': WHATEVER THE INPUT: true; the input reads as it did. -/
def gateScalesSpec : ChangeSpec := { name := "gateScales", fn := fun _ => fun
  | [d1, d2] => { results := [.lit (.bool true)], args := [d1, d2] }
  | _ => none }
def gateScalesRow : OpenClaim := { program := "ytooeabibhjbkoaagreat", sum := "5f10314dddbbe740865c24f32f77fcd681cb5ba7ad287ac551150b9805ac57f2", func := "fundadmin/fundadminlaw27.GateScales", spec := "gateScales", unfollowed := true, recurses := true, named := ["math/bits.overflowError", "math/bits.divideError"], apart := false }
def GateScalesSaid : Prop := gateScalesRow.holds Tryz.pinned (OpenSpec.ofChange gateScalesSpec)

/-- ITS FALSE NEIGHBOUR: 'it returns false'. Refute it at one input. -/
def gateScalesWrong : ChangeSpec := { name := "gateScales", fn := fun _ => fun
  | [d1, d2] => { results := [.lit (.bool false)], args := [d1, d2] }
  | _ => none }
def GateScalesWrongFalsely : Prop := gateScalesRow.holds Tryz.pinned (OpenSpec.ofChange gateScalesWrong)

/-- 'fundadminlaw27.GateIsFair': WHATEVER THE INPUT: true; the input reads as it did. -/
def gateIsFairSpec : ChangeSpec := { name := "gateIsFair", fn := fun _ => fun
  | [d1, d2] => { results := [.lit (.bool true)], args := [d1, d2] }
  | _ => none }
def gateIsFairRow : OpenClaim := { program := "ytooeabibhjbkoaagreat", sum := "5f10314dddbbe740865c24f32f77fcd681cb5ba7ad287ac551150b9805ac57f2", func := "fundadmin/fundadminlaw27.GateIsFair", spec := "gateIsFair", unfollowed := true, recurses := true, named := ["math/bits.overflowError", "math/bits.divideError"], apart := false }
def GateIsFairSaid : Prop := gateIsFairRow.holds Tryz.pinned (OpenSpec.ofChange gateIsFairSpec)

/-- ITS FALSE NEIGHBOUR: 'it returns false'. Refute it at one input. -/
def gateIsFairWrong : ChangeSpec := { name := "gateIsFair", fn := fun _ => fun
  | [d1, d2] => { results := [.lit (.bool false)], args := [d1, d2] }
  | _ => none }
def GateIsFairWrongFalsely : Prop := gateIsFairRow.holds Tryz.pinned (OpenSpec.ofChange gateIsFairWrong)

/-- 'fundadminlaw27.GateCarries': WHATEVER THE INPUT: true; the input reads as it did. -/
def gateCarriesSpec : ChangeSpec := { name := "gateCarries", fn := fun _ => fun
  | [d1, d2, d3, d4] => { results := [.lit (.bool true)], args := [d1, d2, d3, d4] }
  | _ => none }
def gateCarriesRow : OpenClaim := { program := "ytooeabibhjbkoaagreat", sum := "5f10314dddbbe740865c24f32f77fcd681cb5ba7ad287ac551150b9805ac57f2", func := "fundadmin/fundadminlaw27.GateCarries", spec := "gateCarries", unfollowed := true, recurses := true, named := ["math/bits.overflowError", "math/bits.divideError"], apart := false }
def GateCarriesSaid : Prop := gateCarriesRow.holds Tryz.pinned (OpenSpec.ofChange gateCarriesSpec)

/-- ITS FALSE NEIGHBOUR: 'it returns false'. Refute it at one input. -/
def gateCarriesWrong : ChangeSpec := { name := "gateCarries", fn := fun _ => fun
  | [d1, d2, d3, d4] => { results := [.lit (.bool false)], args := [d1, d2, d3, d4] }
  | _ => none }
def GateCarriesWrongFalsely : Prop := gateCarriesRow.holds Tryz.pinned (OpenSpec.ofChange gateCarriesWrong)

/-- 'fundadminlaw27.GateLosesNothing': WHATEVER THE INPUT: true; the input reads as it did. -/
def gateLosesNothingSpec : ChangeSpec := { name := "gateLosesNothing", fn := fun _ => fun
  | [d1, d2, d3] => { results := [.lit (.bool true)], args := [d1, d2, d3] }
  | _ => none }
def gateLosesNothingRow : OpenClaim := { program := "ytooeabibhjbkoaagreat", sum := "5f10314dddbbe740865c24f32f77fcd681cb5ba7ad287ac551150b9805ac57f2", func := "fundadmin/fundadminlaw27.GateLosesNothing", spec := "gateLosesNothing", unfollowed := true, recurses := true, named := ["math/bits.overflowError", "math/bits.divideError"], apart := false }
def GateLosesNothingSaid : Prop := gateLosesNothingRow.holds Tryz.pinned (OpenSpec.ofChange gateLosesNothingSpec)

/-- ITS FALSE NEIGHBOUR: 'it returns false'. Refute it at one input. -/
def gateLosesNothingWrong : ChangeSpec := { name := "gateLosesNothing", fn := fun _ => fun
  | [d1, d2, d3] => { results := [.lit (.bool false)], args := [d1, d2, d3] }
  | _ => none }
def GateLosesNothingWrongFalsely : Prop := gateLosesNothingRow.holds Tryz.pinned (OpenSpec.ofChange gateLosesNothingWrong)

/-- 'fundadminlaw27.GateEmptiesAFund': WHATEVER THE INPUT: true; the input reads as it did. -/
def gateEmptiesAFundSpec : ChangeSpec := { name := "gateEmptiesAFund", fn := fun _ => fun
  | [d1, d2, d3] => { results := [.lit (.bool true)], args := [d1, d2, d3] }
  | _ => none }
def gateEmptiesAFundRow : OpenClaim := { program := "ytooeabibhjbkoaagreat", sum := "5f10314dddbbe740865c24f32f77fcd681cb5ba7ad287ac551150b9805ac57f2", func := "fundadmin/fundadminlaw27.GateEmptiesAFund", spec := "gateEmptiesAFund", unfollowed := true, recurses := true, named := ["math/bits.overflowError", "math/bits.divideError"], apart := false }
def GateEmptiesAFundSaid : Prop := gateEmptiesAFundRow.holds Tryz.pinned (OpenSpec.ofChange gateEmptiesAFundSpec)

/-- ITS FALSE NEIGHBOUR: 'it returns false'. Refute it at one input. -/
def gateEmptiesAFundWrong : ChangeSpec := { name := "gateEmptiesAFund", fn := fun _ => fun
  | [d1, d2, d3] => { results := [.lit (.bool false)], args := [d1, d2, d3] }
  | _ => none }
def GateEmptiesAFundWrongFalsely : Prop := gateEmptiesAFundRow.holds Tryz.pinned (OpenSpec.ofChange gateEmptiesAFundWrong)

/- THE SECOND FORM. 'bulk': how many values and letters a reading holds, each counted each time it is reached (what is shared counts as often as it is met; a slice's spare places count too). A statement '..UptoSaid' is the law's where the arguments, and the package variables that the reading takes, are together of bulk at most 1048576: NARROWER than '..Said'. Prove '..Said' where nothing that the law and all that it calls make is longer than what came in: it says more and counts as full. Else prove '..UptoSaid'. A law counts once. -/
mutual
def uptoBulk {H : Type} : DataW H → Nat
  | .lit (.string bytes) => bytes.length + 1
  | .lit _ => 1
  | .nil => 1
  | .ptr d => uptoBulk d + 1
  | .slice elems spare => uptoBulkAll elems + uptoBulkAll spare + 1
  | .agg parts => uptoBulkAll parts + 1
  | .iface _ d => uptoBulk d + 1
  | .map entries => uptoBulkEntries entries + 1
  | .held _ => 1
def uptoBulkAll {H : Type} : List (DataW H) → Nat
  | [] => 0
  | d :: r => uptoBulk d + uptoBulkAll r
def uptoBulkEntries {H : Type} : List (Lit × DataW H) → Nat
  | [] => 0
  | x :: r => uptoBulkEntry x + uptoBulkEntries r
def uptoBulkEntry {H : Type} : Lit × DataW H → Nat
  | (.string bytes, d) => bytes.length + uptoBulk d + 1
  | (_, d) => uptoBulk d + 1
 end
def uptoSmall : (H : Type) → List (DataW H) → Bool := fun _ ds => decide (uptoBulkAll ds ≤ 1048576)
def OpenSpec.upto (s : _root_.Go.ChangeSpec) : _root_.Go.OpenSpec := { _root_.Go.OpenSpec.ofChange s with cond := some uptoSmall }

/-- 'fundadminlaw27.GateTells', WHERE WHAT IT READS IS OF BULK AT MOST 1048576: true; the input reads as it did. -/
def gateTellsUptoRow : OpenClaim := { program := "ytooeabibhjbkoaagreat", sum := "5f10314dddbbe740865c24f32f77fcd681cb5ba7ad287ac551150b9805ac57f2", func := "fundadmin/fundadminlaw27.GateTells", spec := "gateTells", unfollowed := true, recurses := true, named := ["math/bits.overflowError", "math/bits.divideError"], apart := false, narrowed := true }
def GateTellsUptoSaid : Prop := gateTellsUptoRow.holds Tryz.pinned (OpenSpec.upto gateTellsSpec)

/-- 'fundadminlaw27.GateScales', WHERE WHAT IT READS IS OF BULK AT MOST 1048576: true; the input reads as it did. -/
def gateScalesUptoRow : OpenClaim := { program := "ytooeabibhjbkoaagreat", sum := "5f10314dddbbe740865c24f32f77fcd681cb5ba7ad287ac551150b9805ac57f2", func := "fundadmin/fundadminlaw27.GateScales", spec := "gateScales", unfollowed := true, recurses := true, named := ["math/bits.overflowError", "math/bits.divideError"], apart := false, narrowed := true }
def GateScalesUptoSaid : Prop := gateScalesUptoRow.holds Tryz.pinned (OpenSpec.upto gateScalesSpec)

/-- 'fundadminlaw27.GateIsFair', WHERE WHAT IT READS IS OF BULK AT MOST 1048576: true; the input reads as it did. -/
def gateIsFairUptoRow : OpenClaim := { program := "ytooeabibhjbkoaagreat", sum := "5f10314dddbbe740865c24f32f77fcd681cb5ba7ad287ac551150b9805ac57f2", func := "fundadmin/fundadminlaw27.GateIsFair", spec := "gateIsFair", unfollowed := true, recurses := true, named := ["math/bits.overflowError", "math/bits.divideError"], apart := false, narrowed := true }
def GateIsFairUptoSaid : Prop := gateIsFairUptoRow.holds Tryz.pinned (OpenSpec.upto gateIsFairSpec)

/-- 'fundadminlaw27.GateCarries', WHERE WHAT IT READS IS OF BULK AT MOST 1048576: true; the input reads as it did. -/
def gateCarriesUptoRow : OpenClaim := { program := "ytooeabibhjbkoaagreat", sum := "5f10314dddbbe740865c24f32f77fcd681cb5ba7ad287ac551150b9805ac57f2", func := "fundadmin/fundadminlaw27.GateCarries", spec := "gateCarries", unfollowed := true, recurses := true, named := ["math/bits.overflowError", "math/bits.divideError"], apart := false, narrowed := true }
def GateCarriesUptoSaid : Prop := gateCarriesUptoRow.holds Tryz.pinned (OpenSpec.upto gateCarriesSpec)

/-- 'fundadminlaw27.GateLosesNothing', WHERE WHAT IT READS IS OF BULK AT MOST 1048576: true; the input reads as it did. -/
def gateLosesNothingUptoRow : OpenClaim := { program := "ytooeabibhjbkoaagreat", sum := "5f10314dddbbe740865c24f32f77fcd681cb5ba7ad287ac551150b9805ac57f2", func := "fundadmin/fundadminlaw27.GateLosesNothing", spec := "gateLosesNothing", unfollowed := true, recurses := true, named := ["math/bits.overflowError", "math/bits.divideError"], apart := false, narrowed := true }
def GateLosesNothingUptoSaid : Prop := gateLosesNothingUptoRow.holds Tryz.pinned (OpenSpec.upto gateLosesNothingSpec)

/-- 'fundadminlaw27.GateEmptiesAFund', WHERE WHAT IT READS IS OF BULK AT MOST 1048576: true; the input reads as it did. -/
def gateEmptiesAFundUptoRow : OpenClaim := { program := "ytooeabibhjbkoaagreat", sum := "5f10314dddbbe740865c24f32f77fcd681cb5ba7ad287ac551150b9805ac57f2", func := "fundadmin/fundadminlaw27.GateEmptiesAFund", spec := "gateEmptiesAFund", unfollowed := true, recurses := true, named := ["math/bits.overflowError", "math/bits.divideError"], apart := false, narrowed := true }
def GateEmptiesAFundUptoSaid : Prop := gateEmptiesAFundUptoRow.holds Tryz.pinned (OpenSpec.upto gateEmptiesAFundSpec)

end Rows
end Go.Proofs.YtooeabibhjbkoaaGreat
