/-
  Plain functions of the token layer: what a text's tokens are, over lists of bytes. No program in sight.
-/
import Derived.Lib.Strings
import Derived.Lib.Bytealg
import Derived.Lib.TrimByte
namespace Go.Proofs.YtmnacfdbjlfooaaDoor.Tk

/-- A letter, a digit, an inner sign of a word: of a byte's number. -/
def lttI (c : Int) : Bool := (decide (97 ≤ c) && decide (c ≤ 122)) || (decide (65 ≤ c) && decide (c ≤ 90))
def digI (c : Int) : Bool := decide (48 ≤ c) && decide (c ≤ 57)
def innI (c : Int) : Bool := (lttI c || digI c) || c == 95
def isL (c : UInt8) : Bool := lttI c.toNat
def isD (c : UInt8) : Bool := digI c.toNat
def isI (c : UInt8) : Bool := innI c.toNat

/-- The keywords. -/
def kws : List (List UInt8) := [[118, 97, 114], [118, 111, 108, 97, 116, 105, 108, 101], [109, 117, 116, 101, 120], [114, 119, 108, 111, 99, 107], [99, 111, 110, 100], [102, 117, 116, 117, 114, 101], [116, 104, 114, 101, 97, 100], [105, 102], [101, 108, 115, 101], [119, 104, 105, 108, 101], [108, 111, 99, 107], [114, 101, 97, 100], [119, 114, 105, 116, 101], [116, 114, 97, 110, 115, 97, 99, 116, 105, 111, 110], [97, 116, 111, 109, 105, 99], [119, 97, 105, 116], [110, 111, 116, 105, 102, 121], [110, 111, 116, 105, 102, 121, 97, 108, 108], [115, 112, 97, 119, 110], [106, 111, 105, 110], [115, 101, 116], [103, 101, 116]]
def isKw (l : List UInt8) : Bool := kws.contains l

/-- The signs, the longer ones first. -/
def sgs : List (List UInt8) := [[124, 124], [38, 38], [61, 61], [33, 61], [60, 61], [62, 61], [60], [62], [43], [45], [42], [47], [37], [33], [61], [40], [41], [91], [93], [123], [125], [44], [59]]
def sgOf (l : List UInt8) : List UInt8 := (sgs.find? fun g => g.isPrefixOf l).getD []

/-- The value of decimal digits. -/
def val (l : List UInt8) : Nat := l.foldl (fun n c => 10 * n + (c.toNat - 48)) 0
def numOk (l : List UInt8) : Bool := decide (val l ≤ 9223372036854775807)

/-- A name. -/
def isNm (l : List UInt8) : Bool := (decide (1 ≤ l.length) && decide (l.length ≤ 12) && !isKw l) && (l.head?.any isL && l.all isI)

/-- A token: its kind, its text, its line. -/
structure Tok where
  kind : Nat
  text : List UInt8
  line : Nat

/-- The first token of a text that begins with none of the blanks: an error, or a kind and a text. -/
def wordR (l : List UInt8) : Nat × Nat × List UInt8 :=
  if 12 < (l.takeWhile isI).length then (2, 0, []) else (0, if isKw (l.takeWhile isI) then 3 else 1, l.takeWhile isI)
def numR (l : List UInt8) : Nat × Nat × List UInt8 :=
  if ((l.dropWhile isD).head?.any isI) || !numOk (l.takeWhile isD) then (3, 0, []) else (0, 2, l.takeWhile isD)
def sgnR (l : List UInt8) : Nat × Nat × List UInt8 :=
  if (sgOf l).isEmpty then (3, 0, []) else (0, 4, sgOf l)
def first (l : List UInt8) : Nat × Nat × List UInt8 :=
  if isL (l.headD 0) then wordR l else if isD (l.headD 0) then numR l else sgnR l

/-- The tokens of a text from a line on, behind those that were read: the tokens, the error, its line. -/
def scanA : Nat → List UInt8 → Nat → List Tok → List Tok × Nat × Nat
  | _, [], _, acc => (acc, 0, 0)
  | 0, _ :: _, _, acc => (acc, 0, 0)
  | f + 1, c :: r, line, acc =>
    if c = 10 then scanA f r (line + 1) acc
    else if c = 32 ∨ c = 9 ∨ c = 13 then scanA f r line acc
    else if [47, 47].isPrefixOf (c :: r) then scanA f ((c :: r).dropWhile (· != 10)) line acc
    else if (first (c :: r)).1 = 0 then scanA f ((c :: r).drop (first (c :: r)).2.2.length) line (acc ++ [⟨(first (c :: r)).2.1, (first (c :: r)).2.2, line⟩])
    else ([], (first (c :: r)).1, line)

def scan (l : List UInt8) : List Tok × Nat × Nat :=
  if 4096 < l.length then ([], 2, 0) else scanA l.length l 1 []

/-- The cells of tokens in memory. -/
def Tok.cells (t : Tok) : List Value := [.int .i64 t.kind, .string ⟨t.text.toArray⟩, .int .i64 t.line]
def cellsOf (l : List Tok) : List Value := l.flatMap Tok.cells

end Go.Proofs.YtmnacfdbjlfooaaDoor.Tk
