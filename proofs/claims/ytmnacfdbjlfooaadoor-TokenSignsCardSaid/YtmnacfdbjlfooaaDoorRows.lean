/-
  NARROWER THAN 'FOR EVERY INPUT', by the rows' own cells (each row's printed sentence says how): TokenNumbers: laid · TokenScans: laid · TokenWords: laid · TokenBlanks: laid · TokenLines: laid · TokenComments: laid · TokenSigns: laid · TokenLength: laid.
  DERIVED. THE GIVEN ROWS OF THIS SEAT. 8 by the template 'for every input the law returns true; each argument reads behind the call as it read before'; 0 by the template 'total and deterministic' (their statements: YtmnacfdbjlfooaaDoorTotals.lean).
  GIVEN WITH THE SEED: the statements are not yours to turn. If you find one false, say at which input.
  Laid BY PROGRAM, IN A SANDBOX (cutbox-rows.mjs): the forced cells as the released guide's own fill.sh prints them over the translation 8bbcb250031ccb85… (all of the seat's roots in one cut). By AI agents, Wed Nov 11 2026. No macro, syntax, notation, axiom, sorry.
-/
import Derived.Test.YtmnacfdbjlfooaaDoorChecked
import GoSem.PinnedTables
import GoSem.Claim
import GoSem.ClaimJoined
import GoSem.ClaimMapViews
import Derived.JoinedTies
import Derived.KernelRfl
namespace Go.Proofs.YtmnacfdbjlfooaaDoor
/- THE CELL 'sum', in the pinned program and in every row, IS THE sha256 OF THE DUMP (.gsa) THAT YtmnacfdbjlfooaaDoorProg.lean LOADS. Nothing in Lean hashes anything: it is a label: what it is worth is what the hold of that sum in a sandbox is worth. -/
noncomputable def Tryd.pinned : Pinned := { name := "ytmnacfdbjlfooaadoor", sum := "8bbcb250031ccb854d9ee489fc52c045ee1ade0dee0dd68465f7e5a19fd7c61d", checked := Tryd.checked }
namespace Rows
def none {H : Type} : Left H := { results := [], args := [] }

/- WHAT THE LISTED PACKAGE-LEVEL VARIABLES READ AS WHEN THE CALL BEGINS. Each datum BY PROGRAM (the guide's laid-datum.mjs) off the statement by which the dump's own 'gosem.cut.vars' lays the variable. In a bare row this is a premise. The card (YtmnacfdbjlfooaaDoorCards.lean) ties it to the program's text. -/
def laid_unicode_utf8_acceptRanges {H : Type} : DataW H := .agg [.agg [.lit (.int .u8 128), .lit (.int .u8 191)], .agg [.lit (.int .u8 160), .lit (.int .u8 191)], .agg [.lit (.int .u8 128), .lit (.int .u8 159)], .agg [.lit (.int .u8 144), .lit (.int .u8 191)], .agg [.lit (.int .u8 128), .lit (.int .u8 143)], .agg [.lit (.int .u8 0), .lit (.int .u8 0)], .agg [.lit (.int .u8 0), .lit (.int .u8 0)], .agg [.lit (.int .u8 0), .lit (.int .u8 0)], .agg [.lit (.int .u8 0), .lit (.int .u8 0)], .agg [.lit (.int .u8 0), .lit (.int .u8 0)], .agg [.lit (.int .u8 0), .lit (.int .u8 0)], .agg [.lit (.int .u8 0), .lit (.int .u8 0)], .agg [.lit (.int .u8 0), .lit (.int .u8 0)], .agg [.lit (.int .u8 0), .lit (.int .u8 0)], .agg [.lit (.int .u8 0), .lit (.int .u8 0)], .agg [.lit (.int .u8 0), .lit (.int .u8 0)]]
def laid_interleave_token_keywords {H : Type} : DataW H := .agg [.lit (.string [118, 97, 114]), .lit (.string [118, 111, 108, 97, 116, 105, 108, 101]), .lit (.string [109, 117, 116, 101, 120]), .lit (.string [114, 119, 108, 111, 99, 107]), .lit (.string [99, 111, 110, 100]), .lit (.string [102, 117, 116, 117, 114, 101]), .lit (.string [116, 104, 114, 101, 97, 100]), .lit (.string [105, 102]), .lit (.string [101, 108, 115, 101]), .lit (.string [119, 104, 105, 108, 101]), .lit (.string [108, 111, 99, 107]), .lit (.string [114, 101, 97, 100]), .lit (.string [119, 114, 105, 116, 101]), .lit (.string [116, 114, 97, 110, 115, 97, 99, 116, 105, 111, 110]), .lit (.string [97, 116, 111, 109, 105, 99]), .lit (.string [119, 97, 105, 116]), .lit (.string [110, 111, 116, 105, 102, 121]), .lit (.string [110, 111, 116, 105, 102, 121, 97, 108, 108]), .lit (.string [115, 112, 97, 119, 110]), .lit (.string [106, 111, 105, 110]), .lit (.string [115, 101, 116]), .lit (.string [103, 101, 116])]
/-- One of Go's own tables, pinned by name: the form's constant. -/
def laid_unicode_utf8_first : DataW Unit := Go.Pinned.utf8First

/-- 'interleavelaw01.TokenNumbers': WHATEVER THE INPUT: true; the input reads as it did. -/
def tokenNumbersSpec : ChangeSpec := { name := "tokenNumbers", fn := fun _ => fun
  | [] => { results := [.lit (.bool true)], args := [] }
  | _ => none }
def tokenNumbersRow : OpenClaim := { program := "ytmnacfdbjlfooaadoor", sum := "8bbcb250031ccb854d9ee489fc52c045ee1ade0dee0dd68465f7e5a19fd7c61d", func := "interleave/interleavelaw01.TokenNumbers", spec := "tokenNumbers", inPlace := ["internal/bytealg.IndexByteString", "internal/bytealg.IndexString"], named := ["interleave/token.keywords", "unicode/utf8.first", "unicode/utf8.acceptRanges", "internal/bytealg.MaxLen"], apart := false, laid := [("unicode/utf8.acceptRanges", laid_unicode_utf8_acceptRanges), ("interleave/token.keywords", laid_interleave_token_keywords), ("unicode/utf8.first", laid_unicode_utf8_first)] }
def TokenNumbersSaid : Prop := tokenNumbersRow.holds Tryd.pinned (OpenSpec.ofChange tokenNumbersSpec)

/-- ITS FALSE NEIGHBOUR: 'it returns false'. Refute it at one input. -/
def tokenNumbersWrong : ChangeSpec := { name := "tokenNumbers", fn := fun _ => fun
  | [] => { results := [.lit (.bool false)], args := [] }
  | _ => none }
def TokenNumbersWrongFalsely : Prop := tokenNumbersRow.holds Tryd.pinned (OpenSpec.ofChange tokenNumbersWrong)

/-- 'interleavelaw01.TokenScans': WHATEVER THE INPUT: true; the input reads as it did. -/
def tokenScansSpec : ChangeSpec := { name := "tokenScans", fn := fun _ => fun
  | [d] => { results := [.lit (.bool true)], args := [d] }
  | _ => none }
def tokenScansRow : OpenClaim := { program := "ytmnacfdbjlfooaadoor", sum := "8bbcb250031ccb854d9ee489fc52c045ee1ade0dee0dd68465f7e5a19fd7c61d", func := "interleave/interleavelaw01.TokenScans", spec := "tokenScans", inPlace := ["internal/bytealg.IndexByteString", "internal/bytealg.IndexString"], named := ["interleave/token.keywords", "unicode/utf8.first", "unicode/utf8.acceptRanges", "internal/bytealg.MaxLen"], apart := false, laid := [("unicode/utf8.acceptRanges", laid_unicode_utf8_acceptRanges), ("interleave/token.keywords", laid_interleave_token_keywords), ("unicode/utf8.first", laid_unicode_utf8_first)] }
def TokenScansSaid : Prop := tokenScansRow.holds Tryd.pinned (OpenSpec.ofChange tokenScansSpec)

/-- ITS FALSE NEIGHBOUR: 'it returns false'. Refute it at one input. -/
def tokenScansWrong : ChangeSpec := { name := "tokenScans", fn := fun _ => fun
  | [d] => { results := [.lit (.bool false)], args := [d] }
  | _ => none }
def TokenScansWrongFalsely : Prop := tokenScansRow.holds Tryd.pinned (OpenSpec.ofChange tokenScansWrong)

/-- 'interleavelaw01.TokenWords': WHATEVER THE INPUT: true; the input reads as it did. -/
def tokenWordsSpec : ChangeSpec := { name := "tokenWords", fn := fun _ => fun
  | [d] => { results := [.lit (.bool true)], args := [d] }
  | _ => none }
def tokenWordsRow : OpenClaim := { program := "ytmnacfdbjlfooaadoor", sum := "8bbcb250031ccb854d9ee489fc52c045ee1ade0dee0dd68465f7e5a19fd7c61d", func := "interleave/interleavelaw01.TokenWords", spec := "tokenWords", inPlace := ["internal/bytealg.IndexByteString", "internal/bytealg.IndexString"], named := ["interleave/token.keywords", "unicode/utf8.first", "unicode/utf8.acceptRanges", "internal/bytealg.MaxLen"], apart := false, laid := [("unicode/utf8.acceptRanges", laid_unicode_utf8_acceptRanges), ("interleave/token.keywords", laid_interleave_token_keywords), ("unicode/utf8.first", laid_unicode_utf8_first)] }
def TokenWordsSaid : Prop := tokenWordsRow.holds Tryd.pinned (OpenSpec.ofChange tokenWordsSpec)

/-- ITS FALSE NEIGHBOUR: 'it returns false'. Refute it at one input. -/
def tokenWordsWrong : ChangeSpec := { name := "tokenWords", fn := fun _ => fun
  | [d] => { results := [.lit (.bool false)], args := [d] }
  | _ => none }
def TokenWordsWrongFalsely : Prop := tokenWordsRow.holds Tryd.pinned (OpenSpec.ofChange tokenWordsWrong)

/-- 'interleavelaw01.TokenBlanks': WHATEVER THE INPUT: true; the input reads as it did. -/
def tokenBlanksSpec : ChangeSpec := { name := "tokenBlanks", fn := fun _ => fun
  | [d] => { results := [.lit (.bool true)], args := [d] }
  | _ => none }
def tokenBlanksRow : OpenClaim := { program := "ytmnacfdbjlfooaadoor", sum := "8bbcb250031ccb854d9ee489fc52c045ee1ade0dee0dd68465f7e5a19fd7c61d", func := "interleave/interleavelaw01.TokenBlanks", spec := "tokenBlanks", inPlace := ["internal/bytealg.IndexByteString", "internal/bytealg.IndexString"], named := ["interleave/token.keywords", "unicode/utf8.first", "unicode/utf8.acceptRanges", "internal/bytealg.MaxLen"], apart := false, laid := [("unicode/utf8.acceptRanges", laid_unicode_utf8_acceptRanges), ("interleave/token.keywords", laid_interleave_token_keywords), ("unicode/utf8.first", laid_unicode_utf8_first)] }
def TokenBlanksSaid : Prop := tokenBlanksRow.holds Tryd.pinned (OpenSpec.ofChange tokenBlanksSpec)

/-- ITS FALSE NEIGHBOUR: 'it returns false'. Refute it at one input. -/
def tokenBlanksWrong : ChangeSpec := { name := "tokenBlanks", fn := fun _ => fun
  | [d] => { results := [.lit (.bool false)], args := [d] }
  | _ => none }
def TokenBlanksWrongFalsely : Prop := tokenBlanksRow.holds Tryd.pinned (OpenSpec.ofChange tokenBlanksWrong)

/-- 'interleavelaw01.TokenLines': WHATEVER THE INPUT: true; the input reads as it did. -/
def tokenLinesSpec : ChangeSpec := { name := "tokenLines", fn := fun _ => fun
  | [d1, d2] => { results := [.lit (.bool true)], args := [d1, d2] }
  | _ => none }
def tokenLinesRow : OpenClaim := { program := "ytmnacfdbjlfooaadoor", sum := "8bbcb250031ccb854d9ee489fc52c045ee1ade0dee0dd68465f7e5a19fd7c61d", func := "interleave/interleavelaw01.TokenLines", spec := "tokenLines", inPlace := ["internal/bytealg.IndexByteString", "internal/bytealg.IndexString"], named := ["interleave/token.keywords", "unicode/utf8.first", "unicode/utf8.acceptRanges", "internal/bytealg.MaxLen"], apart := false, laid := [("unicode/utf8.acceptRanges", laid_unicode_utf8_acceptRanges), ("interleave/token.keywords", laid_interleave_token_keywords), ("unicode/utf8.first", laid_unicode_utf8_first)] }
def TokenLinesSaid : Prop := tokenLinesRow.holds Tryd.pinned (OpenSpec.ofChange tokenLinesSpec)

/-- ITS FALSE NEIGHBOUR: 'it returns false'. Refute it at one input. -/
def tokenLinesWrong : ChangeSpec := { name := "tokenLines", fn := fun _ => fun
  | [d1, d2] => { results := [.lit (.bool false)], args := [d1, d2] }
  | _ => none }
def TokenLinesWrongFalsely : Prop := tokenLinesRow.holds Tryd.pinned (OpenSpec.ofChange tokenLinesWrong)

/-- 'interleavelaw01.TokenComments': WHATEVER THE INPUT: true; the input reads as it did. -/
def tokenCommentsSpec : ChangeSpec := { name := "tokenComments", fn := fun _ => fun
  | [d1, d2] => { results := [.lit (.bool true)], args := [d1, d2] }
  | _ => none }
def tokenCommentsRow : OpenClaim := { program := "ytmnacfdbjlfooaadoor", sum := "8bbcb250031ccb854d9ee489fc52c045ee1ade0dee0dd68465f7e5a19fd7c61d", func := "interleave/interleavelaw01.TokenComments", spec := "tokenComments", inPlace := ["internal/bytealg.IndexByteString", "internal/bytealg.IndexString"], named := ["interleave/token.keywords", "unicode/utf8.first", "unicode/utf8.acceptRanges", "internal/bytealg.MaxLen"], apart := false, laid := [("unicode/utf8.acceptRanges", laid_unicode_utf8_acceptRanges), ("interleave/token.keywords", laid_interleave_token_keywords), ("unicode/utf8.first", laid_unicode_utf8_first)] }
def TokenCommentsSaid : Prop := tokenCommentsRow.holds Tryd.pinned (OpenSpec.ofChange tokenCommentsSpec)

/-- ITS FALSE NEIGHBOUR: 'it returns false'. Refute it at one input. -/
def tokenCommentsWrong : ChangeSpec := { name := "tokenComments", fn := fun _ => fun
  | [d1, d2] => { results := [.lit (.bool false)], args := [d1, d2] }
  | _ => none }
def TokenCommentsWrongFalsely : Prop := tokenCommentsRow.holds Tryd.pinned (OpenSpec.ofChange tokenCommentsWrong)

/-- 'interleavelaw01.TokenSigns': WHATEVER THE INPUT: true; the input reads as it did. -/
def tokenSignsSpec : ChangeSpec := { name := "tokenSigns", fn := fun _ => fun
  | [d] => { results := [.lit (.bool true)], args := [d] }
  | _ => none }
def tokenSignsRow : OpenClaim := { program := "ytmnacfdbjlfooaadoor", sum := "8bbcb250031ccb854d9ee489fc52c045ee1ade0dee0dd68465f7e5a19fd7c61d", func := "interleave/interleavelaw01.TokenSigns", spec := "tokenSigns", inPlace := ["internal/bytealg.IndexByteString", "internal/bytealg.IndexString"], named := ["interleave/token.keywords", "unicode/utf8.first", "unicode/utf8.acceptRanges", "internal/bytealg.MaxLen"], apart := false, laid := [("unicode/utf8.acceptRanges", laid_unicode_utf8_acceptRanges), ("interleave/token.keywords", laid_interleave_token_keywords), ("unicode/utf8.first", laid_unicode_utf8_first)] }
def TokenSignsSaid : Prop := tokenSignsRow.holds Tryd.pinned (OpenSpec.ofChange tokenSignsSpec)

/-- ITS FALSE NEIGHBOUR: 'it returns false'. Refute it at one input. -/
def tokenSignsWrong : ChangeSpec := { name := "tokenSigns", fn := fun _ => fun
  | [d] => { results := [.lit (.bool false)], args := [d] }
  | _ => none }
def TokenSignsWrongFalsely : Prop := tokenSignsRow.holds Tryd.pinned (OpenSpec.ofChange tokenSignsWrong)

/-- 'interleavelaw01.TokenLength': WHATEVER THE INPUT: true; the input reads as it did. -/
def tokenLengthSpec : ChangeSpec := { name := "tokenLength", fn := fun _ => fun
  | [d1, d2] => { results := [.lit (.bool true)], args := [d1, d2] }
  | _ => none }
def tokenLengthRow : OpenClaim := { program := "ytmnacfdbjlfooaadoor", sum := "8bbcb250031ccb854d9ee489fc52c045ee1ade0dee0dd68465f7e5a19fd7c61d", func := "interleave/interleavelaw01.TokenLength", spec := "tokenLength", inPlace := ["internal/bytealg.IndexByteString", "internal/bytealg.IndexString"], named := ["interleave/token.keywords", "unicode/utf8.first", "unicode/utf8.acceptRanges", "internal/bytealg.MaxLen"], apart := false, laid := [("unicode/utf8.acceptRanges", laid_unicode_utf8_acceptRanges), ("interleave/token.keywords", laid_interleave_token_keywords), ("unicode/utf8.first", laid_unicode_utf8_first)] }
def TokenLengthSaid : Prop := tokenLengthRow.holds Tryd.pinned (OpenSpec.ofChange tokenLengthSpec)

/-- ITS FALSE NEIGHBOUR: 'it returns false'. Refute it at one input. -/
def tokenLengthWrong : ChangeSpec := { name := "tokenLength", fn := fun _ => fun
  | [d1, d2] => { results := [.lit (.bool false)], args := [d1, d2] }
  | _ => none }
def TokenLengthWrongFalsely : Prop := tokenLengthRow.holds Tryd.pinned (OpenSpec.ofChange tokenLengthWrong)

/- THE SECOND FORM. 'bulk': how many values and letters a reading holds, each counted each time it is reached (what is shared counts as often as it is met; a slice's spare places count too). A statement '..UptoSaid' is the law's where the arguments, and the package variables that the reading takes, are together of bulk at most 1048576: NARROWER than '..Said'. Prove '..Said' where nothing that the law and all that it calls make is longer than what came in: it says more and counts as full. Else prove '..UptoSaid'. A law counts once. -/
mutual
def uptoBulk {H : Type} : DataW H → Nat
  | .lit (.string bytes) => bytes.length + 1
  | .lit _ => 1
  | .nil => 1
  | .ptr d => uptoBulk d + 1
  | .slice elems spare => uptoBulkAll elems + uptoBulkAll spare + 1
  | .agg parts => uptoBulkAll parts + 1
  | .iface _ d => uptoBulk d + 1
  | .map entries => uptoBulkEntries entries + 1
  | .held _ => 1
def uptoBulkAll {H : Type} : List (DataW H) → Nat
  | [] => 0
  | d :: r => uptoBulk d + uptoBulkAll r
def uptoBulkEntries {H : Type} : List (Lit × DataW H) → Nat
  | [] => 0
  | x :: r => uptoBulkEntry x + uptoBulkEntries r
def uptoBulkEntry {H : Type} : Lit × DataW H → Nat
  | (.string bytes, d) => bytes.length + uptoBulk d + 1
  | (_, d) => uptoBulk d + 1
 end
def uptoSmall : (H : Type) → List (DataW H) → Bool := fun _ ds => decide (uptoBulkAll ds ≤ 1048576)
def OpenSpec.upto (s : _root_.Go.ChangeSpec) : _root_.Go.OpenSpec := { _root_.Go.OpenSpec.ofChange s with cond := some uptoSmall }

/-- 'interleavelaw01.TokenNumbers', WHERE WHAT IT READS IS OF BULK AT MOST 1048576: true; the input reads as it did. -/
def tokenNumbersUptoRow : OpenClaim := { program := "ytmnacfdbjlfooaadoor", sum := "8bbcb250031ccb854d9ee489fc52c045ee1ade0dee0dd68465f7e5a19fd7c61d", func := "interleave/interleavelaw01.TokenNumbers", spec := "tokenNumbers", inPlace := ["internal/bytealg.IndexByteString", "internal/bytealg.IndexString"], named := ["interleave/token.keywords", "unicode/utf8.first", "unicode/utf8.acceptRanges", "internal/bytealg.MaxLen"], apart := false, laid := [("unicode/utf8.acceptRanges", laid_unicode_utf8_acceptRanges), ("interleave/token.keywords", laid_interleave_token_keywords), ("unicode/utf8.first", laid_unicode_utf8_first)], narrowed := true }
def TokenNumbersUptoSaid : Prop := tokenNumbersUptoRow.holds Tryd.pinned (OpenSpec.upto tokenNumbersSpec)

/-- 'interleavelaw01.TokenScans', WHERE WHAT IT READS IS OF BULK AT MOST 1048576: true; the input reads as it did. -/
def tokenScansUptoRow : OpenClaim := { program := "ytmnacfdbjlfooaadoor", sum := "8bbcb250031ccb854d9ee489fc52c045ee1ade0dee0dd68465f7e5a19fd7c61d", func := "interleave/interleavelaw01.TokenScans", spec := "tokenScans", inPlace := ["internal/bytealg.IndexByteString", "internal/bytealg.IndexString"], named := ["interleave/token.keywords", "unicode/utf8.first", "unicode/utf8.acceptRanges", "internal/bytealg.MaxLen"], apart := false, laid := [("unicode/utf8.acceptRanges", laid_unicode_utf8_acceptRanges), ("interleave/token.keywords", laid_interleave_token_keywords), ("unicode/utf8.first", laid_unicode_utf8_first)], narrowed := true }
def TokenScansUptoSaid : Prop := tokenScansUptoRow.holds Tryd.pinned (OpenSpec.upto tokenScansSpec)

/-- 'interleavelaw01.TokenWords', WHERE WHAT IT READS IS OF BULK AT MOST 1048576: true; the input reads as it did. -/
def tokenWordsUptoRow : OpenClaim := { program := "ytmnacfdbjlfooaadoor", sum := "8bbcb250031ccb854d9ee489fc52c045ee1ade0dee0dd68465f7e5a19fd7c61d", func := "interleave/interleavelaw01.TokenWords", spec := "tokenWords", inPlace := ["internal/bytealg.IndexByteString", "internal/bytealg.IndexString"], named := ["interleave/token.keywords", "unicode/utf8.first", "unicode/utf8.acceptRanges", "internal/bytealg.MaxLen"], apart := false, laid := [("unicode/utf8.acceptRanges", laid_unicode_utf8_acceptRanges), ("interleave/token.keywords", laid_interleave_token_keywords), ("unicode/utf8.first", laid_unicode_utf8_first)], narrowed := true }
def TokenWordsUptoSaid : Prop := tokenWordsUptoRow.holds Tryd.pinned (OpenSpec.upto tokenWordsSpec)

/-- 'interleavelaw01.TokenBlanks', WHERE WHAT IT READS IS OF BULK AT MOST 1048576: true; the input reads as it did. -/
def tokenBlanksUptoRow : OpenClaim := { program := "ytmnacfdbjlfooaadoor", sum := "8bbcb250031ccb854d9ee489fc52c045ee1ade0dee0dd68465f7e5a19fd7c61d", func := "interleave/interleavelaw01.TokenBlanks", spec := "tokenBlanks", inPlace := ["internal/bytealg.IndexByteString", "internal/bytealg.IndexString"], named := ["interleave/token.keywords", "unicode/utf8.first", "unicode/utf8.acceptRanges", "internal/bytealg.MaxLen"], apart := false, laid := [("unicode/utf8.acceptRanges", laid_unicode_utf8_acceptRanges), ("interleave/token.keywords", laid_interleave_token_keywords), ("unicode/utf8.first", laid_unicode_utf8_first)], narrowed := true }
def TokenBlanksUptoSaid : Prop := tokenBlanksUptoRow.holds Tryd.pinned (OpenSpec.upto tokenBlanksSpec)

/-- 'interleavelaw01.TokenLines', WHERE WHAT IT READS IS OF BULK AT MOST 1048576: true; the input reads as it did. -/
def tokenLinesUptoRow : OpenClaim := { program := "ytmnacfdbjlfooaadoor", sum := "8bbcb250031ccb854d9ee489fc52c045ee1ade0dee0dd68465f7e5a19fd7c61d", func := "interleave/interleavelaw01.TokenLines", spec := "tokenLines", inPlace := ["internal/bytealg.IndexByteString", "internal/bytealg.IndexString"], named := ["interleave/token.keywords", "unicode/utf8.first", "unicode/utf8.acceptRanges", "internal/bytealg.MaxLen"], apart := false, laid := [("unicode/utf8.acceptRanges", laid_unicode_utf8_acceptRanges), ("interleave/token.keywords", laid_interleave_token_keywords), ("unicode/utf8.first", laid_unicode_utf8_first)], narrowed := true }
def TokenLinesUptoSaid : Prop := tokenLinesUptoRow.holds Tryd.pinned (OpenSpec.upto tokenLinesSpec)

/-- 'interleavelaw01.TokenComments', WHERE WHAT IT READS IS OF BULK AT MOST 1048576: true; the input reads as it did. -/
def tokenCommentsUptoRow : OpenClaim := { program := "ytmnacfdbjlfooaadoor", sum := "8bbcb250031ccb854d9ee489fc52c045ee1ade0dee0dd68465f7e5a19fd7c61d", func := "interleave/interleavelaw01.TokenComments", spec := "tokenComments", inPlace := ["internal/bytealg.IndexByteString", "internal/bytealg.IndexString"], named := ["interleave/token.keywords", "unicode/utf8.first", "unicode/utf8.acceptRanges", "internal/bytealg.MaxLen"], apart := false, laid := [("unicode/utf8.acceptRanges", laid_unicode_utf8_acceptRanges), ("interleave/token.keywords", laid_interleave_token_keywords), ("unicode/utf8.first", laid_unicode_utf8_first)], narrowed := true }
def TokenCommentsUptoSaid : Prop := tokenCommentsUptoRow.holds Tryd.pinned (OpenSpec.upto tokenCommentsSpec)

/-- 'interleavelaw01.TokenSigns', WHERE WHAT IT READS IS OF BULK AT MOST 1048576: true; the input reads as it did. -/
def tokenSignsUptoRow : OpenClaim := { program := "ytmnacfdbjlfooaadoor", sum := "8bbcb250031ccb854d9ee489fc52c045ee1ade0dee0dd68465f7e5a19fd7c61d", func := "interleave/interleavelaw01.TokenSigns", spec := "tokenSigns", inPlace := ["internal/bytealg.IndexByteString", "internal/bytealg.IndexString"], named := ["interleave/token.keywords", "unicode/utf8.first", "unicode/utf8.acceptRanges", "internal/bytealg.MaxLen"], apart := false, laid := [("unicode/utf8.acceptRanges", laid_unicode_utf8_acceptRanges), ("interleave/token.keywords", laid_interleave_token_keywords), ("unicode/utf8.first", laid_unicode_utf8_first)], narrowed := true }
def TokenSignsUptoSaid : Prop := tokenSignsUptoRow.holds Tryd.pinned (OpenSpec.upto tokenSignsSpec)

/-- 'interleavelaw01.TokenLength', WHERE WHAT IT READS IS OF BULK AT MOST 1048576: true; the input reads as it did. -/
def tokenLengthUptoRow : OpenClaim := { program := "ytmnacfdbjlfooaadoor", sum := "8bbcb250031ccb854d9ee489fc52c045ee1ade0dee0dd68465f7e5a19fd7c61d", func := "interleave/interleavelaw01.TokenLength", spec := "tokenLength", inPlace := ["internal/bytealg.IndexByteString", "internal/bytealg.IndexString"], named := ["interleave/token.keywords", "unicode/utf8.first", "unicode/utf8.acceptRanges", "internal/bytealg.MaxLen"], apart := false, laid := [("unicode/utf8.acceptRanges", laid_unicode_utf8_acceptRanges), ("interleave/token.keywords", laid_interleave_token_keywords), ("unicode/utf8.first", laid_unicode_utf8_first)], narrowed := true }
def TokenLengthUptoSaid : Prop := tokenLengthUptoRow.holds Tryd.pinned (OpenSpec.upto tokenLengthSpec)

end Rows
end Go.Proofs.YtmnacfdbjlfooaaDoor
