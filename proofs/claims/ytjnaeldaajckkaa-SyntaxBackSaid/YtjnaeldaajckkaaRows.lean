/-
  No cell of these rows narrows 'for every input' (looked for: loops, veiled, ifaces, maps, wideKeys, modest, calm, conditions, laid).
  DERIVED. THE GIVEN ROWS OF THIS SEAT. 12 by the template 'for every input the law returns true; each argument reads behind the call as it read before'; 0 by the template 'total and deterministic' (their statements: YtjnaeldaajckkaaTotals.lean).
  GIVEN WITH THE SEED: the statements are not yours to turn. If you find one false, say at which input.
  Laid BY PROGRAM, IN A SANDBOX (cutbox-rows.mjs): the forced cells as the released guide's own fill.sh prints them over the translation 505536cfc6ea2ae9… (all of the seat's roots in one cut). By AI agents, Wed Nov 11 2026. No macro, syntax, notation, axiom, sorry.
-/
import Derived.Test.YtjnaeldaajckkaaChecked
import GoSem.Claim
import GoSem.ClaimJoined
import GoSem.ClaimMapViews
import Derived.JoinedTies
import Derived.KernelRfl
namespace Go.Proofs.Ytjnaeldaajckkaa
/- THE CELL 'sum', in the pinned program and in every row, IS THE sha256 OF THE DUMP (.gsa) THAT YtjnaeldaajckkaaProg.lean LOADS. Nothing in Lean hashes anything: it is a label: what it is worth is what the hold of that sum in a sandbox is worth. -/
noncomputable def Try.pinned : Pinned := { name := "ytjnaeldaajckkaa", sum := "505536cfc6ea2ae9d90e2b0d8165f068e6703689dd7bed55ee804d83fd1d2ac3", checked := Try.checked }
namespace Rows
def none {H : Type} : Left H := { results := [], args := [] }

/-- 'fundadminlaw10.TokenScans': WHATEVER THE INPUT: true; the input reads as it did. -/
def tokenScansSpec : ChangeSpec := { name := "tokenScans", fn := fun _ => fun
  | [d] => { results := [.lit (.bool true)], args := [d] }
  | _ => none }
def tokenScansRow : OpenClaim := { program := "ytjnaeldaajckkaa", sum := "505536cfc6ea2ae9d90e2b0d8165f068e6703689dd7bed55ee804d83fd1d2ac3", func := "fundadmin/fundadminlaw10.TokenScans", spec := "tokenScans", inPlace := ["internal/bytealg.IndexByteString"], apart := false }
def TokenScansSaid : Prop := tokenScansRow.holds Try.pinned (OpenSpec.ofChange tokenScansSpec)

/-- ITS FALSE NEIGHBOUR: 'it returns false'. Refute it at one input. -/
def tokenScansWrong : ChangeSpec := { name := "tokenScans", fn := fun _ => fun
  | [d] => { results := [.lit (.bool false)], args := [d] }
  | _ => none }
def TokenScansWrongFalsely : Prop := tokenScansRow.holds Try.pinned (OpenSpec.ofChange tokenScansWrong)

/-- 'fundadminlaw10.TokenPieces': WHATEVER THE INPUT: true; the input reads as it did. -/
def tokenPiecesSpec : ChangeSpec := { name := "tokenPieces", fn := fun _ => fun
  | [d] => { results := [.lit (.bool true)], args := [d] }
  | _ => none }
def tokenPiecesRow : OpenClaim := { program := "ytjnaeldaajckkaa", sum := "505536cfc6ea2ae9d90e2b0d8165f068e6703689dd7bed55ee804d83fd1d2ac3", func := "fundadmin/fundadminlaw10.TokenPieces", spec := "tokenPieces", inPlace := ["internal/bytealg.IndexByteString"], apart := false }
def TokenPiecesSaid : Prop := tokenPiecesRow.holds Try.pinned (OpenSpec.ofChange tokenPiecesSpec)

/-- ITS FALSE NEIGHBOUR: 'it returns false'. Refute it at one input. -/
def tokenPiecesWrong : ChangeSpec := { name := "tokenPieces", fn := fun _ => fun
  | [d] => { results := [.lit (.bool false)], args := [d] }
  | _ => none }
def TokenPiecesWrongFalsely : Prop := tokenPiecesRow.holds Try.pinned (OpenSpec.ofChange tokenPiecesWrong)

/-- 'fundadminlaw10.TokenJoins': WHATEVER THE INPUT: true; the input reads as it did. -/
def tokenJoinsSpec : ChangeSpec := { name := "tokenJoins", fn := fun _ => fun
  | [d] => { results := [.lit (.bool true)], args := [d] }
  | _ => none }
def tokenJoinsRow : OpenClaim := { program := "ytjnaeldaajckkaa", sum := "505536cfc6ea2ae9d90e2b0d8165f068e6703689dd7bed55ee804d83fd1d2ac3", func := "fundadmin/fundadminlaw10.TokenJoins", spec := "tokenJoins", inPlace := ["internal/bytealg.IndexByteString"], apart := false }
def TokenJoinsSaid : Prop := tokenJoinsRow.holds Try.pinned (OpenSpec.ofChange tokenJoinsSpec)

/-- ITS FALSE NEIGHBOUR: 'it returns false'. Refute it at one input. -/
def tokenJoinsWrong : ChangeSpec := { name := "tokenJoins", fn := fun _ => fun
  | [d] => { results := [.lit (.bool false)], args := [d] }
  | _ => none }
def TokenJoinsWrongFalsely : Prop := tokenJoinsRow.holds Try.pinned (OpenSpec.ofChange tokenJoinsWrong)

/-- 'fundadminlaw10.TokenCovers': WHATEVER THE INPUT: true; the input reads as it did. -/
def tokenCoversSpec : ChangeSpec := { name := "tokenCovers", fn := fun _ => fun
  | [d] => { results := [.lit (.bool true)], args := [d] }
  | _ => none }
def tokenCoversRow : OpenClaim := { program := "ytjnaeldaajckkaa", sum := "505536cfc6ea2ae9d90e2b0d8165f068e6703689dd7bed55ee804d83fd1d2ac3", func := "fundadmin/fundadminlaw10.TokenCovers", spec := "tokenCovers", inPlace := ["internal/bytealg.IndexByteString"], apart := false }
def TokenCoversSaid : Prop := tokenCoversRow.holds Try.pinned (OpenSpec.ofChange tokenCoversSpec)

/-- ITS FALSE NEIGHBOUR: 'it returns false'. Refute it at one input. -/
def tokenCoversWrong : ChangeSpec := { name := "tokenCovers", fn := fun _ => fun
  | [d] => { results := [.lit (.bool false)], args := [d] }
  | _ => none }
def TokenCoversWrongFalsely : Prop := tokenCoversRow.holds Try.pinned (OpenSpec.ofChange tokenCoversWrong)

/-- 'fundadminlaw10.TokenComments': WHATEVER THE INPUT: true; the input reads as it did. -/
def tokenCommentsSpec : ChangeSpec := { name := "tokenComments", fn := fun _ => fun
  | [d] => { results := [.lit (.bool true)], args := [d] }
  | _ => none }
def tokenCommentsRow : OpenClaim := { program := "ytjnaeldaajckkaa", sum := "505536cfc6ea2ae9d90e2b0d8165f068e6703689dd7bed55ee804d83fd1d2ac3", func := "fundadmin/fundadminlaw10.TokenComments", spec := "tokenComments", inPlace := ["internal/bytealg.IndexByteString"], apart := false }
def TokenCommentsSaid : Prop := tokenCommentsRow.holds Try.pinned (OpenSpec.ofChange tokenCommentsSpec)

/-- ITS FALSE NEIGHBOUR: 'it returns false'. Refute it at one input. -/
def tokenCommentsWrong : ChangeSpec := { name := "tokenComments", fn := fun _ => fun
  | [d] => { results := [.lit (.bool false)], args := [d] }
  | _ => none }
def TokenCommentsWrongFalsely : Prop := tokenCommentsRow.holds Try.pinned (OpenSpec.ofChange tokenCommentsWrong)

/-- 'fundadminlaw10.TokenTimes': WHATEVER THE INPUT: true; the input reads as it did. -/
def tokenTimesSpec : ChangeSpec := { name := "tokenTimes", fn := fun _ => fun
  | [d1, d2] => { results := [.lit (.bool true)], args := [d1, d2] }
  | _ => none }
def tokenTimesRow : OpenClaim := { program := "ytjnaeldaajckkaa", sum := "505536cfc6ea2ae9d90e2b0d8165f068e6703689dd7bed55ee804d83fd1d2ac3", func := "fundadmin/fundadminlaw10.TokenTimes", spec := "tokenTimes", inPlace := ["internal/bytealg.IndexByteString"], apart := false }
def TokenTimesSaid : Prop := tokenTimesRow.holds Try.pinned (OpenSpec.ofChange tokenTimesSpec)

/-- ITS FALSE NEIGHBOUR: 'it returns false'. Refute it at one input. -/
def tokenTimesWrong : ChangeSpec := { name := "tokenTimes", fn := fun _ => fun
  | [d1, d2] => { results := [.lit (.bool false)], args := [d1, d2] }
  | _ => none }
def TokenTimesWrongFalsely : Prop := tokenTimesRow.holds Try.pinned (OpenSpec.ofChange tokenTimesWrong)

/-- 'fundadminlaw10.TokenWords': WHATEVER THE INPUT: true; the input reads as it did. -/
def tokenWordsSpec : ChangeSpec := { name := "tokenWords", fn := fun _ => fun
  | [d] => { results := [.lit (.bool true)], args := [d] }
  | _ => none }
def tokenWordsRow : OpenClaim := { program := "ytjnaeldaajckkaa", sum := "505536cfc6ea2ae9d90e2b0d8165f068e6703689dd7bed55ee804d83fd1d2ac3", func := "fundadmin/fundadminlaw10.TokenWords", spec := "tokenWords", inPlace := ["internal/bytealg.IndexByteString"], apart := false }
def TokenWordsSaid : Prop := tokenWordsRow.holds Try.pinned (OpenSpec.ofChange tokenWordsSpec)

/-- ITS FALSE NEIGHBOUR: 'it returns false'. Refute it at one input. -/
def tokenWordsWrong : ChangeSpec := { name := "tokenWords", fn := fun _ => fun
  | [d] => { results := [.lit (.bool false)], args := [d] }
  | _ => none }
def TokenWordsWrongFalsely : Prop := tokenWordsRow.holds Try.pinned (OpenSpec.ofChange tokenWordsWrong)

/-- 'fundadminlaw11.SyntaxParses': WHATEVER THE INPUT: true; the input reads as it did. -/
def syntaxParsesSpec : ChangeSpec := { name := "syntaxParses", fn := fun _ => fun
  | [d] => { results := [.lit (.bool true)], args := [d] }
  | _ => none }
def syntaxParsesRow : OpenClaim := { program := "ytjnaeldaajckkaa", sum := "505536cfc6ea2ae9d90e2b0d8165f068e6703689dd7bed55ee804d83fd1d2ac3", func := "fundadmin/fundadminlaw11.SyntaxParses", spec := "syntaxParses", inPlace := ["internal/bytealg.IndexByteString", "internal/abi.NoEscape"], unfollowed := true, recurses := true, apart := false }
def SyntaxParsesSaid : Prop := syntaxParsesRow.holds Try.pinned (OpenSpec.ofChange syntaxParsesSpec)

/-- ITS FALSE NEIGHBOUR: 'it returns false'. Refute it at one input. -/
def syntaxParsesWrong : ChangeSpec := { name := "syntaxParses", fn := fun _ => fun
  | [d] => { results := [.lit (.bool false)], args := [d] }
  | _ => none }
def SyntaxParsesWrongFalsely : Prop := syntaxParsesRow.holds Try.pinned (OpenSpec.ofChange syntaxParsesWrong)

/-- 'fundadminlaw11.SyntaxPieces': WHATEVER THE INPUT: true; the input reads as it did. -/
def syntaxPiecesSpec : ChangeSpec := { name := "syntaxPieces", fn := fun _ => fun
  | [d] => { results := [.lit (.bool true)], args := [d] }
  | _ => none }
def syntaxPiecesRow : OpenClaim := { program := "ytjnaeldaajckkaa", sum := "505536cfc6ea2ae9d90e2b0d8165f068e6703689dd7bed55ee804d83fd1d2ac3", func := "fundadmin/fundadminlaw11.SyntaxPieces", spec := "syntaxPieces", inPlace := ["internal/bytealg.IndexByteString", "internal/abi.NoEscape"], unfollowed := true, recurses := true, apart := false }
def SyntaxPiecesSaid : Prop := syntaxPiecesRow.holds Try.pinned (OpenSpec.ofChange syntaxPiecesSpec)

/-- ITS FALSE NEIGHBOUR: 'it returns false'. Refute it at one input. -/
def syntaxPiecesWrong : ChangeSpec := { name := "syntaxPieces", fn := fun _ => fun
  | [d] => { results := [.lit (.bool false)], args := [d] }
  | _ => none }
def SyntaxPiecesWrongFalsely : Prop := syntaxPiecesRow.holds Try.pinned (OpenSpec.ofChange syntaxPiecesWrong)

/-- 'fundadminlaw11.SyntaxBack': WHATEVER THE INPUT: true; the input reads as it did. -/
def syntaxBackSpec : ChangeSpec := { name := "syntaxBack", fn := fun _ => fun
  | [d] => { results := [.lit (.bool true)], args := [d] }
  | _ => none }
def syntaxBackRow : OpenClaim := { program := "ytjnaeldaajckkaa", sum := "505536cfc6ea2ae9d90e2b0d8165f068e6703689dd7bed55ee804d83fd1d2ac3", func := "fundadmin/fundadminlaw11.SyntaxBack", spec := "syntaxBack", inPlace := ["internal/bytealg.IndexByteString", "internal/abi.NoEscape"], unfollowed := true, recurses := true, apart := false }
def SyntaxBackSaid : Prop := syntaxBackRow.holds Try.pinned (OpenSpec.ofChange syntaxBackSpec)

/-- ITS FALSE NEIGHBOUR: 'it returns false'. Refute it at one input. -/
def syntaxBackWrong : ChangeSpec := { name := "syntaxBack", fn := fun _ => fun
  | [d] => { results := [.lit (.bool false)], args := [d] }
  | _ => none }
def SyntaxBackWrongFalsely : Prop := syntaxBackRow.holds Try.pinned (OpenSpec.ofChange syntaxBackWrong)

/-- 'fundadminlaw11.SyntaxAgain': WHATEVER THE INPUT: true; the input reads as it did. -/
def syntaxAgainSpec : ChangeSpec := { name := "syntaxAgain", fn := fun _ => fun
  | [d] => { results := [.lit (.bool true)], args := [d] }
  | _ => none }
def syntaxAgainRow : OpenClaim := { program := "ytjnaeldaajckkaa", sum := "505536cfc6ea2ae9d90e2b0d8165f068e6703689dd7bed55ee804d83fd1d2ac3", func := "fundadmin/fundadminlaw11.SyntaxAgain", spec := "syntaxAgain", inPlace := ["internal/bytealg.IndexByteString", "internal/abi.NoEscape"], unfollowed := true, recurses := true, apart := false }
def SyntaxAgainSaid : Prop := syntaxAgainRow.holds Try.pinned (OpenSpec.ofChange syntaxAgainSpec)

/-- ITS FALSE NEIGHBOUR: 'it returns false'. Refute it at one input. -/
def syntaxAgainWrong : ChangeSpec := { name := "syntaxAgain", fn := fun _ => fun
  | [d] => { results := [.lit (.bool false)], args := [d] }
  | _ => none }
def SyntaxAgainWrongFalsely : Prop := syntaxAgainRow.holds Try.pinned (OpenSpec.ofChange syntaxAgainWrong)

/-- 'fundadminlaw11.SyntaxErrors': WHATEVER THE INPUT: true; the input reads as it did. -/
def syntaxErrorsSpec : ChangeSpec := { name := "syntaxErrors", fn := fun _ => fun
  | [d] => { results := [.lit (.bool true)], args := [d] }
  | _ => none }
def syntaxErrorsRow : OpenClaim := { program := "ytjnaeldaajckkaa", sum := "505536cfc6ea2ae9d90e2b0d8165f068e6703689dd7bed55ee804d83fd1d2ac3", func := "fundadmin/fundadminlaw11.SyntaxErrors", spec := "syntaxErrors", inPlace := ["internal/bytealg.IndexByteString", "internal/abi.NoEscape"], unfollowed := true, recurses := true, apart := false }
def SyntaxErrorsSaid : Prop := syntaxErrorsRow.holds Try.pinned (OpenSpec.ofChange syntaxErrorsSpec)

/-- ITS FALSE NEIGHBOUR: 'it returns false'. Refute it at one input. -/
def syntaxErrorsWrong : ChangeSpec := { name := "syntaxErrors", fn := fun _ => fun
  | [d] => { results := [.lit (.bool false)], args := [d] }
  | _ => none }
def SyntaxErrorsWrongFalsely : Prop := syntaxErrorsRow.holds Try.pinned (OpenSpec.ofChange syntaxErrorsWrong)

/- THE SECOND FORM. 'bulk': how many values and letters a reading holds, each counted each time it is reached (what is shared counts as often as it is met; a slice's spare places count too). A statement '..UptoSaid' is the law's where the arguments, and the package variables that the reading takes, are together of bulk at most 1048576: NARROWER than '..Said'. Prove '..Said' where nothing that the law and all that it calls make is longer than what came in: it says more and counts as full. Else prove '..UptoSaid'. A law counts once. -/
mutual
def uptoBulk {H : Type} : DataW H → Nat
  | .lit (.string bytes) => bytes.length + 1
  | .lit _ => 1
  | .nil => 1
  | .ptr d => uptoBulk d + 1
  | .slice elems spare => uptoBulkAll elems + uptoBulkAll spare + 1
  | .agg parts => uptoBulkAll parts + 1
  | .iface _ d => uptoBulk d + 1
  | .map entries => uptoBulkEntries entries + 1
  | .held _ => 1
def uptoBulkAll {H : Type} : List (DataW H) → Nat
  | [] => 0
  | d :: r => uptoBulk d + uptoBulkAll r
def uptoBulkEntries {H : Type} : List (Lit × DataW H) → Nat
  | [] => 0
  | x :: r => uptoBulkEntry x + uptoBulkEntries r
def uptoBulkEntry {H : Type} : Lit × DataW H → Nat
  | (.string bytes, d) => bytes.length + uptoBulk d + 1
  | (_, d) => uptoBulk d + 1
 end
def uptoSmall : (H : Type) → List (DataW H) → Bool := fun _ ds => decide (uptoBulkAll ds ≤ 1048576)
def OpenSpec.upto (s : _root_.Go.ChangeSpec) : _root_.Go.OpenSpec := { _root_.Go.OpenSpec.ofChange s with cond := some uptoSmall }

/-- 'fundadminlaw10.TokenScans', WHERE WHAT IT READS IS OF BULK AT MOST 1048576: true; the input reads as it did. -/
def tokenScansUptoRow : OpenClaim := { program := "ytjnaeldaajckkaa", sum := "505536cfc6ea2ae9d90e2b0d8165f068e6703689dd7bed55ee804d83fd1d2ac3", func := "fundadmin/fundadminlaw10.TokenScans", spec := "tokenScans", inPlace := ["internal/bytealg.IndexByteString"], apart := false, narrowed := true }
def TokenScansUptoSaid : Prop := tokenScansUptoRow.holds Try.pinned (OpenSpec.upto tokenScansSpec)

/-- 'fundadminlaw10.TokenPieces', WHERE WHAT IT READS IS OF BULK AT MOST 1048576: true; the input reads as it did. -/
def tokenPiecesUptoRow : OpenClaim := { program := "ytjnaeldaajckkaa", sum := "505536cfc6ea2ae9d90e2b0d8165f068e6703689dd7bed55ee804d83fd1d2ac3", func := "fundadmin/fundadminlaw10.TokenPieces", spec := "tokenPieces", inPlace := ["internal/bytealg.IndexByteString"], apart := false, narrowed := true }
def TokenPiecesUptoSaid : Prop := tokenPiecesUptoRow.holds Try.pinned (OpenSpec.upto tokenPiecesSpec)

/-- 'fundadminlaw10.TokenJoins', WHERE WHAT IT READS IS OF BULK AT MOST 1048576: true; the input reads as it did. -/
def tokenJoinsUptoRow : OpenClaim := { program := "ytjnaeldaajckkaa", sum := "505536cfc6ea2ae9d90e2b0d8165f068e6703689dd7bed55ee804d83fd1d2ac3", func := "fundadmin/fundadminlaw10.TokenJoins", spec := "tokenJoins", inPlace := ["internal/bytealg.IndexByteString"], apart := false, narrowed := true }
def TokenJoinsUptoSaid : Prop := tokenJoinsUptoRow.holds Try.pinned (OpenSpec.upto tokenJoinsSpec)

/-- 'fundadminlaw10.TokenCovers', WHERE WHAT IT READS IS OF BULK AT MOST 1048576: true; the input reads as it did. -/
def tokenCoversUptoRow : OpenClaim := { program := "ytjnaeldaajckkaa", sum := "505536cfc6ea2ae9d90e2b0d8165f068e6703689dd7bed55ee804d83fd1d2ac3", func := "fundadmin/fundadminlaw10.TokenCovers", spec := "tokenCovers", inPlace := ["internal/bytealg.IndexByteString"], apart := false, narrowed := true }
def TokenCoversUptoSaid : Prop := tokenCoversUptoRow.holds Try.pinned (OpenSpec.upto tokenCoversSpec)

/-- 'fundadminlaw10.TokenComments', WHERE WHAT IT READS IS OF BULK AT MOST 1048576: true; the input reads as it did. -/
def tokenCommentsUptoRow : OpenClaim := { program := "ytjnaeldaajckkaa", sum := "505536cfc6ea2ae9d90e2b0d8165f068e6703689dd7bed55ee804d83fd1d2ac3", func := "fundadmin/fundadminlaw10.TokenComments", spec := "tokenComments", inPlace := ["internal/bytealg.IndexByteString"], apart := false, narrowed := true }
def TokenCommentsUptoSaid : Prop := tokenCommentsUptoRow.holds Try.pinned (OpenSpec.upto tokenCommentsSpec)

/-- 'fundadminlaw10.TokenTimes', WHERE WHAT IT READS IS OF BULK AT MOST 1048576: true; the input reads as it did. -/
def tokenTimesUptoRow : OpenClaim := { program := "ytjnaeldaajckkaa", sum := "505536cfc6ea2ae9d90e2b0d8165f068e6703689dd7bed55ee804d83fd1d2ac3", func := "fundadmin/fundadminlaw10.TokenTimes", spec := "tokenTimes", inPlace := ["internal/bytealg.IndexByteString"], apart := false, narrowed := true }
def TokenTimesUptoSaid : Prop := tokenTimesUptoRow.holds Try.pinned (OpenSpec.upto tokenTimesSpec)

/-- 'fundadminlaw10.TokenWords', WHERE WHAT IT READS IS OF BULK AT MOST 1048576: true; the input reads as it did. -/
def tokenWordsUptoRow : OpenClaim := { program := "ytjnaeldaajckkaa", sum := "505536cfc6ea2ae9d90e2b0d8165f068e6703689dd7bed55ee804d83fd1d2ac3", func := "fundadmin/fundadminlaw10.TokenWords", spec := "tokenWords", inPlace := ["internal/bytealg.IndexByteString"], apart := false, narrowed := true }
def TokenWordsUptoSaid : Prop := tokenWordsUptoRow.holds Try.pinned (OpenSpec.upto tokenWordsSpec)

/-- 'fundadminlaw11.SyntaxParses', WHERE WHAT IT READS IS OF BULK AT MOST 1048576: true; the input reads as it did. -/
def syntaxParsesUptoRow : OpenClaim := { program := "ytjnaeldaajckkaa", sum := "505536cfc6ea2ae9d90e2b0d8165f068e6703689dd7bed55ee804d83fd1d2ac3", func := "fundadmin/fundadminlaw11.SyntaxParses", spec := "syntaxParses", inPlace := ["internal/bytealg.IndexByteString", "internal/abi.NoEscape"], unfollowed := true, recurses := true, apart := false, narrowed := true }
def SyntaxParsesUptoSaid : Prop := syntaxParsesUptoRow.holds Try.pinned (OpenSpec.upto syntaxParsesSpec)

/-- 'fundadminlaw11.SyntaxPieces', WHERE WHAT IT READS IS OF BULK AT MOST 1048576: true; the input reads as it did. -/
def syntaxPiecesUptoRow : OpenClaim := { program := "ytjnaeldaajckkaa", sum := "505536cfc6ea2ae9d90e2b0d8165f068e6703689dd7bed55ee804d83fd1d2ac3", func := "fundadmin/fundadminlaw11.SyntaxPieces", spec := "syntaxPieces", inPlace := ["internal/bytealg.IndexByteString", "internal/abi.NoEscape"], unfollowed := true, recurses := true, apart := false, narrowed := true }
def SyntaxPiecesUptoSaid : Prop := syntaxPiecesUptoRow.holds Try.pinned (OpenSpec.upto syntaxPiecesSpec)

/-- 'fundadminlaw11.SyntaxBack', WHERE WHAT IT READS IS OF BULK AT MOST 1048576: true; the input reads as it did. -/
def syntaxBackUptoRow : OpenClaim := { program := "ytjnaeldaajckkaa", sum := "505536cfc6ea2ae9d90e2b0d8165f068e6703689dd7bed55ee804d83fd1d2ac3", func := "fundadmin/fundadminlaw11.SyntaxBack", spec := "syntaxBack", inPlace := ["internal/bytealg.IndexByteString", "internal/abi.NoEscape"], unfollowed := true, recurses := true, apart := false, narrowed := true }
def SyntaxBackUptoSaid : Prop := syntaxBackUptoRow.holds Try.pinned (OpenSpec.upto syntaxBackSpec)

/-- 'fundadminlaw11.SyntaxAgain', WHERE WHAT IT READS IS OF BULK AT MOST 1048576: true; the input reads as it did. -/
def syntaxAgainUptoRow : OpenClaim := { program := "ytjnaeldaajckkaa", sum := "505536cfc6ea2ae9d90e2b0d8165f068e6703689dd7bed55ee804d83fd1d2ac3", func := "fundadmin/fundadminlaw11.SyntaxAgain", spec := "syntaxAgain", inPlace := ["internal/bytealg.IndexByteString", "internal/abi.NoEscape"], unfollowed := true, recurses := true, apart := false, narrowed := true }
def SyntaxAgainUptoSaid : Prop := syntaxAgainUptoRow.holds Try.pinned (OpenSpec.upto syntaxAgainSpec)

/-- 'fundadminlaw11.SyntaxErrors', WHERE WHAT IT READS IS OF BULK AT MOST 1048576: true; the input reads as it did. -/
def syntaxErrorsUptoRow : OpenClaim := { program := "ytjnaeldaajckkaa", sum := "505536cfc6ea2ae9d90e2b0d8165f068e6703689dd7bed55ee804d83fd1d2ac3", func := "fundadmin/fundadminlaw11.SyntaxErrors", spec := "syntaxErrors", inPlace := ["internal/bytealg.IndexByteString", "internal/abi.NoEscape"], unfollowed := true, recurses := true, apart := false, narrowed := true }
def SyntaxErrorsUptoSaid : Prop := syntaxErrorsUptoRow.holds Try.pinned (OpenSpec.upto syntaxErrorsSpec)

end Rows
end Go.Proofs.Ytjnaeldaajckkaa
