/-
  Plain functions of the parser: what a list of tokens says, and where it stops to fit. No program in sight.
  What was read is ahead of what is left: plain laws of the parser. No program in sight.
  What is known of a text's tokens: names are names, numbers are digits of a value that fits. No program in sight.
  More that is known of a text's tokens: their lines, their number, their signs. No program in sight.
  What was read is ahead of what is left: statements, declarations, threads. No program in sight.
-/
import Derived.Test.YtommnhglgedflaaGreatDoorGTA
import Derived.Test.YtommnhglgedflaaGreatDoorGMA
section
namespace Go.Proofs.YtommnhglgedflaaGreatDoor.Pz
open Go.RowKit Md Tk
abbrev Toks := List Tok
/-- What was read and what is left; or what is left at the first token that does not fit. -/
inductive Res (α : Type) where
  | ok (a : α) (rest : Toks)
  | no (rest : Toks)
/-- An expression. -/
structure E where
  op : Int
  n : Int
  nm : ByteArray
  kids : ExL
def tx (l : List UInt8) : ByteArray := ⟨l.toArray⟩
def nextK : Toks → Nat
  | [] => 0
  | t :: _ => t.kind
def nextT : Toks → List UInt8
  | [] => []
  | t :: _ => t.text
def nextL : Toks → Nat
  | [] => 0
  | t :: _ => t.line
/-- The next token is this keyword or sign. -/
def at' (x : List UInt8) (ts : Toks) : Bool := (nextK ts == 3 || nextK ts == 4) && nextT ts == x
def isName (ts : Toks) : Bool := nextK ts == 1
def isNum (ts : Toks) : Bool := nextK ts == 2
/-- The binary operator of a sign, and its level. -/
def binOf (x : List UInt8) : Int × Int :=
  if x == [124, 124] then (18, 1) else if x == [38, 38] then (17, 2) else if x == [61, 61] then (11, 3) else if x == [33, 61] then (12, 3) else if x == [60] then (13, 3) else if x == [60, 61] then (14, 3)
  else if x == [62] then (15, 3) else if x == [62, 61] then (16, 3) else if x == [43] then (6, 4) else if x == [45] then (7, 4) else if x == [42] then (8, 5) else if x == [47] then (9, 5) else if x == [37] then (10, 5) else (0, 0)
def opAt (lv : Int) (ts : Toks) : Int := if nextK ts == 4 && (binOf (nextT ts)).2 == lv then (binOf (nextT ts)).1 else 0
def mk1 (op : Int) (x : E) : E := ⟨op, 0, ⟨#[]⟩, .cons x.op x.n x.nm x.kids .nil⟩
def mk2 (op : Int) (x y : E) : E := ⟨op, 0, ⟨#[]⟩, .cons x.op x.n x.nm x.kids (.cons y.op y.n y.nm y.kids .nil)⟩
def ixE (nm : ByteArray) (x : E) : E := ⟨3, 0, nm, .cons x.op x.n x.nm x.kids .nil⟩
def Res.map {α β : Type} (f : α → β) : Res α → Res β
  | .ok a r => .ok (f a) r
  | .no r => .no r
/-- Behind what was read stands this sign. -/
def Res.close {α : Type} (x : List UInt8) : Res α → Res α
  | .ok a r => if at' x r then .ok a r.tail else .no r
  | .no r => .no r
inductive M where
  | bin (lv : Nat)
  | lp (lv : Nat) (l : E)
  | un
  | pr
/-- Expressions. -/
def pe : Nat → M → Toks → Res E
  | 0, _, ts => .no ts
  | f + 1, .bin lv, ts => if 5 < lv then pe f .un ts else
    match pe f (.bin (lv + 1)) ts with
    | .no r => .no r
    | .ok l r => pe f (.lp lv l) r
  | f + 1, .lp lv l, ts => if opAt lv ts == 0 then .ok l ts else
    match pe f (.bin (lv + 1)) ts.tail with
    | .no r => .no r
    | .ok x r => if lv = 3 then .ok (mk2 (opAt lv ts) l x) r else pe f (.lp lv (mk2 (opAt lv ts) l x)) r
  | f + 1, .un, ts => if at' [45] ts then (pe f .un ts.tail).map (mk1 4) else if at' [33] ts then (pe f .un ts.tail).map (mk1 5) else pe f .pr ts
  | f + 1, .pr, ts => if isNum ts then .ok ⟨1, (val (nextT ts) : Nat), ⟨#[]⟩, .nil⟩ ts.tail
    else if isName ts then
      (if at' [91] ts.tail then ((pe f (.bin 1) ts.tail.tail).close [93]).map (fun x => ⟨3, 0, tx (nextT ts), .cons x.op x.n x.nm x.kids .nil⟩) else .ok ⟨2, 0, tx (nextT ts), .nil⟩ ts.tail)
    else if at' [40] ts then (pe f (.bin 1) ts.tail).close [41] else .no ts
def expr (ts : Toks) : Res E := pe (9 * ts.length + 9) (.bin 1) ts

/-- The operator of the statement that a keyword begins. -/
def stOf (x : List UInt8) : Int :=
  if x == [105, 102] then 2 else if x == [119, 104, 105, 108, 101] then 3 else if x == [108, 111, 99, 107] then 4 else if x == [114, 101, 97, 100] then 5 else if x == [119, 114, 105, 116, 101] then 6
  else if x == [116, 114, 97, 110, 115, 97, 99, 116, 105, 111, 110] then 7 else if x == [97, 116, 111, 109, 105, 99] then 8 else if x == [119, 97, 105, 116] then 9 else if x == [110, 111, 116, 105, 102, 121] then 10
  else if x == [110, 111, 116, 105, 102, 121, 97, 108, 108] then 11 else if x == [115, 112, 97, 119, 110] then 12 else if x == [106, 111, 105, 110] then 13 else if x == [115, 101, 116] then 14 else if x == [103, 101, 116] then 15 else 0
def hd (op line : Int) : StH := ⟨op, line, ⟨#[]⟩, ⟨#[]⟩, .nil, 0, 0, ⟨#[]⟩, .nil⟩
def StH.ex (h : StH) (x : E) : StH := { h with xop := x.op, xn := x.n, xnm := x.nm, xkids := x.kids }
def one (h : StH) (b e : StL) : StL := .cons h b e .nil
def app : StL → StL → StL
  | .nil, l => l
  | .cons h b e r, l => .cons h b e (app r l)
def Res.bind {α β : Type} (r : Res α) (f : α → Toks → Res β) : Res β :=
  match r with
  | .ok a r => f a r
  | .no r => .no r
def nameR (ts : Toks) : Res ByteArray := if isName ts then .ok (tx (nextT ts)) ts.tail else .no ts
def need (x : List UInt8) (ts : Toks) : Res Unit := if at' x ts then .ok () ts.tail else .no ts
/-- An assignment behind its name. -/
def asg (h : StH) (ts : Toks) : Res StL :=
  (if at' [91] ts then ((expr ts.tail).close [93]).map (fun x => { h with idx := .cons x.op x.n x.nm x.kids .nil }) else .ok h ts).bind fun h ts =>
    (need [61] ts).bind fun _ ts => (((expr ts).map fun x => one (StH.ex h x) .nil .nil).close [59])
/-- Statements: one, or those up to a closing brace. -/
def ps : Nat → Bool → Toks → Res StL
  | 0, _, ts => .no ts
  | f + 1, false, ts => if at' [125] ts then .ok .nil ts.tail else
    match ps f true ts with
    | .no r => .no r
    | .ok s r => (ps f false r).map (app s)
  | f + 1, true, ts =>
    let blk := fun (ts : Toks) => if at' [123] ts then ps f false ts.tail else .no ts
    if nextK ts == 1 then asg { hd 1 (nextL ts) with nm := tx (nextT ts) } ts.tail
    else if nextK ts == 3 then
      let op := stOf (nextT ts)
      let h := hd op (nextL ts)
      if op == 0 then .no ts
      else if op == 2 then (expr ts.tail).bind fun x r => (blk r).bind fun b r => if at' [101, 108, 115, 101] r then (blk r.tail).map (one (StH.ex h x) b) else .ok (one (StH.ex h x) b .nil) r
      else if op == 3 then (expr ts.tail).bind fun x r => (blk r).map fun b => one (StH.ex h x) b .nil
      else if op == 7 || op == 8 then (blk ts.tail).map fun b => one h b .nil
      else (nameR ts.tail).bind fun s r =>
        if op == 4 || op == 5 || op == 6 then (blk r).map fun b => one { h with nm := s } b .nil
        else if op == 14 then ((expr r).map fun x => one (StH.ex { h with nm := s } x) .nil .nil).close [59]
        else if op == 15 then ((nameR r).map fun a => one { h with nm := s, arg := a } .nil .nil).close [59]
        else (need [59] r).map fun _ => one { h with nm := s } .nil .nil
    else .no ts
def blk (f : Nat) (ts : Toks) : Res StL := if at' [123] ts then ps f false ts.tail else .no ts

/-- The kind of the declaration that a word begins. -/
def dcOf (x : List UInt8) : Int :=
  if x == [118, 97, 114] then 1 else if x == [118, 111, 108, 97, 116, 105, 108, 101] then 2 else if x == [109, 117, 116, 101, 120] then 3 else if x == [114, 119, 108, 111, 99, 107] then 4 else if x == [99, 111, 110, 100] then 5 else if x == [102, 117, 116, 117, 114, 101] then 6 else 0
def sizeR (d : De) (ts : Toks) : Res De :=
  if at' [91] ts then (if isNum ts.tail then (if val (nextT ts.tail) == 0 then .no ts.tail else (need [93] ts.tail.tail).map fun _ => { d with size := (val (nextT ts.tail) : Nat) }) else .no ts.tail) else .ok d ts
def initR (d : De) (ts : Toks) : Res De :=
  if at' [61] ts then
    (if at' [45] ts.tail then (if isNum ts.tail.tail then .ok { d with init := -(val (nextT ts.tail.tail) : Nat) } ts.tail.tail.tail else .no ts.tail.tail)
     else if isNum ts.tail then .ok { d with init := (val (nextT ts.tail) : Nat) } ts.tail.tail else .no ts.tail)
  else .ok d ts
/-- A declaration, its first word ahead. -/
def declR (ts : Toks) : Res De :=
  let k := dcOf (nextT ts)
  ((nameR ts.tail).bind fun s r =>
    let d : De := ⟨k, nextL ts, s, 0, 0, ⟨#[]⟩⟩
    if k == 1 then (sizeR d r).bind initR
    else if k == 2 then initR d r
    else if k == 5 then (nameR r).map fun o => { d with on := o }
    else .ok d r).close [59]
/-- Names with commas between them. -/
def locsR : Nat → Toks → Res (List ByteArray)
  | 0, ts => .no ts
  | f + 1, ts => (nameR ts).bind fun s r => if at' [44] r then (locsR f r.tail).map (s :: ·) else .ok [s] r
/-- A thread, its first word ahead. -/
def thrR (ts : Toks) : Res Th :=
  (nameR ts.tail).bind fun s r => (need [40] r).bind fun _ r =>
    (if at' [41] r then .ok [] r.tail else (locsR (r.length + 1) r).close [41]).bind fun l r =>
      (blk (3 * r.length + 3) r).map fun b => ⟨s, nextL ts, l, b⟩
def isDecl (ts : Toks) : Bool := nextK ts == 3 && !(dcOf (nextT ts) == 0)
def declsR : Nat → Toks → Res (List De)
  | 0, ts => .ok [] ts
  | f + 1, ts => if isDecl ts then (declR ts).bind fun d r => (declsR f r).map (d :: ·) else .ok [] ts
def thrsR : Nat → Toks → Res (List Th)
  | 0, ts => .ok [] ts
  | f + 1, ts => if at' [116, 104, 114, 101, 97, 100] ts then (thrR ts).bind fun t r => (thrsR f r).map (t :: ·) else .ok [] ts
def prog (ts : Toks) : Res Pr := (declsR ts.length ts).bind fun ds r => (thrsR r.length r).map fun th => ⟨ds, th⟩
/-- The line of the first token that is left, or of the last one, or 1. -/
def lineAt (ts rest : Toks) : Int := match rest with
  | t :: _ => t.line
  | [] => match ts.getLast? with
    | some t => t.line
    | none => 1
/-- A text's program, error and line. -/
def parse (s : List UInt8) : Pr × Int × Int :=
  if (scan s).2.1 = 0 then
    match prog (scan s).1 with
    | .ok p rest => if p.ts.isEmpty || !rest.isEmpty then (⟨[], []⟩, 3, lineAt (scan s).1 rest) else (p, 0, 0)
    | .no rest => (⟨[], []⟩, 3, lineAt (scan s).1 rest)
  else (⟨[], []⟩, (scan s).2.1, (scan s).2.2)
def parseE (s : List UInt8) : E × Int × Int :=
  if (scan s).2.1 = 0 then
    match expr (scan s).1 with
    | .ok x rest => if !rest.isEmpty then (⟨0, 0, ⟨#[]⟩, .nil⟩, 3, lineAt (scan s).1 rest) else (x, 0, 0)
    | .no rest => (⟨0, 0, ⟨#[]⟩, .nil⟩, 3, lineAt (scan s).1 rest)
  else (⟨0, 0, ⟨#[]⟩, .nil⟩, (scan s).2.1, (scan s).2.2)
end Go.Proofs.YtommnhglgedflaaGreatDoor.Pz
end
section
namespace Go.Proofs.YtommnhglgedflaaGreatDoor.Pz
open Go.RowKit Md Tk
theorem at_pos {x : List UInt8} {ts : Toks} (h : at' x ts = true) : ∃ t r, ts = t :: r := by
  cases ts with
  | nil => exact absurd h (by simp [at', nextK])
  | cons t r => exact ⟨t, r, rfl⟩
theorem at_len {x : List UInt8} {ts : Toks} (h : at' x ts = true) : ts.tail.length < ts.length := by
  obtain ⟨t, r, rfl⟩ := at_pos h; simp
theorem name_len {ts : Toks} (h : isName ts = true) : ts.tail.length < ts.length := by
  cases ts with
  | nil => exact absurd h (by simp [isName, nextK])
  | cons t r => simp
theorem num_len {ts : Toks} (h : isNum ts = true) : ts.tail.length < ts.length := by
  cases ts with
  | nil => exact absurd h (by simp [isNum, nextK])
  | cons t r => simp
theorem op_len {lv : Int} {ts : Toks} (h : (opAt lv ts == 0) = false) : ts.tail.length < ts.length := by
  cases ts with
  | nil => exact absurd h (by simp [opAt, nextK])
  | cons t r => simp
theorem tail_le (ts : Toks) : ts.tail.length ≤ ts.length := by rw [List.length_tail]; omega
def Lt : M → Toks → Toks → Prop
  | .lp _ _, r, ts => r.length ≤ ts.length
  | _, r, ts => r.length < ts.length
theorem map_ok {α β : Type} {f : α → β} {x : Res α} {b : β} {r : Toks} (h : x.map f = .ok b r) : ∃ a, x = .ok a r ∧ f a = b := by
  cases x with
  | ok a r' => simp only [Res.map, Res.ok.injEq] at h; obtain ⟨h1, rfl⟩ := h; exact ⟨a, rfl, h1⟩
  | no r' => simp [Res.map] at h
theorem close_ok {α : Type} {y : List UInt8} {x : Res α} {a : α} {r : Toks} (h : x.close y = .ok a r) : ∃ r', x = .ok a r' ∧ at' y r' = true ∧ r = r'.tail := by
  cases x with
  | ok a' r' =>
    simp only [Res.close] at h
    split at h
    · rename_i hc; simp only [Res.ok.injEq] at h; obtain ⟨rfl, rfl⟩ := h; exact ⟨r', rfl, hc, rfl⟩
    · cases h
  | no r' => simp [Res.close] at h
theorem pe_len : ∀ (f : Nat) (m : M) (ts : Toks) (e : E) (r : Toks), pe f m ts = .ok e r → Lt m r ts
  | 0, m, ts, e, r, h => by cases m <;> simp [pe] at h
  | f + 1, .bin lv, ts, e, r, h => by
    unfold pe at h
    split at h
    · exact pe_len f .un ts e r h
    · split at h
      · cases h
      · rename_i l r' hl
        have h1 : r'.length < ts.length := pe_len f (.bin (lv + 1)) ts l r' hl
        have h2 : r.length ≤ r'.length := pe_len f (.lp lv l) r' e r h
        show r.length < ts.length
        omega
  | f + 1, .lp lv l, ts, e, r, h => by
    unfold pe at h
    split at h
    · simp only [Res.ok.injEq] at h; obtain ⟨-, rfl⟩ := h; exact Nat.le_refl _
    · split at h
      · cases h
      · rename_i x r' hx
        have h1 : r'.length < ts.tail.length := pe_len f (.bin (lv + 1)) ts.tail x r' hx
        have h3 := tail_le ts
        show r.length ≤ ts.length
        split at h
        · simp only [Res.ok.injEq] at h; obtain ⟨-, rfl⟩ := h; omega
        · have h2 : r.length ≤ r'.length := pe_len f (.lp lv _) r' e r h
          omega
  | f + 1, .un, ts, e, r, h => by
    unfold pe at h
    have h3 := tail_le ts
    split at h
    · obtain ⟨a, h, -⟩ := map_ok h
      have h1 : r.length < ts.tail.length := pe_len f .un ts.tail a r h
      show r.length < ts.length
      omega
    · split at h
      · obtain ⟨a, h, -⟩ := map_ok h
        have h1 : r.length < ts.tail.length := pe_len f .un ts.tail a r h
        show r.length < ts.length
        omega
      · exact pe_len f .pr ts e r h
  | f + 1, .pr, ts, e, r, h => by
    unfold pe at h
    have h3 := tail_le ts
    show r.length < ts.length
    split at h
    · rename_i hn
      simp only [Res.ok.injEq] at h; obtain ⟨-, rfl⟩ := h; exact num_len hn
    · split at h
      · rename_i hn
        split at h
        · rename_i hb
          obtain ⟨a, h, -⟩ := map_ok h
          obtain ⟨r', h', -, rfl⟩ := close_ok h
          have h1 : r'.length < ts.tail.tail.length := pe_len f (.bin 1) ts.tail.tail a r' h'
          have h4 := tail_le ts.tail
          have h5 := tail_le r'
          omega
        · simp only [Res.ok.injEq] at h; obtain ⟨-, rfl⟩ := h; exact name_len hn
      · split at h
        · obtain ⟨r', h', -, rfl⟩ := close_ok h
          have h1 : r'.length < ts.tail.length := pe_len f (.bin 1) ts.tail e r' h'
          have h5 := tail_le r'
          omega
        · cases h
/-- The fuel that expressions want. -/
def wt : M → Nat
  | .bin lv => 8 - lv
  | .lp _ _ => 0
  | .un => 1
  | .pr => 0
def enough (m : M) (ts : Toks) (f : Nat) : Prop := 9 * ts.length + wt m < f
theorem expr_enough (ts : Toks) : enough (.bin 1) ts (9 * ts.length + 9) := by simp only [enough, wt]; omega
end Go.Proofs.YtommnhglgedflaaGreatDoor.Pz
end
section
set_option linter.unusedSimpArgs false
namespace Go.Proofs.YtommnhglgedflaaGreatDoor.Pz
open Go.RowKit Md Tk
/-- A token of a text. -/
def TOk (t : Tok) : Prop := (t.kind = 1 → isNm t.text = true) ∧ (t.kind = 2 → (t.text.isEmpty = false ∧ t.text.all isD = true) ∧ numOk t.text = true) ∧ (t.kind = 3 → isKw t.text = true) ∧ t.kind ≤ 4
theorem all_tw (p : UInt8 → Bool) : ∀ l : List UInt8, (l.takeWhile p).all p = true
  | [] => rfl
  | c :: r => by
    rw [List.takeWhile_cons]
    by_cases h : p c = true
    · rw [if_pos h, List.all_cons, h, all_tw p r]; rfl
    · rw [if_neg h]; rfl
theorem first_ok (c : UInt8) (r : List UInt8) (line : Nat) (h : (first (c :: r)).1 = 0) : TOk ⟨(first (c :: r)).2.1, (first (c :: r)).2.2, line⟩ := by
  have hh : (c :: r).headD 0 = c := rfl
  unfold first at h ⊢
  rw [hh] at h ⊢
  by_cases hL : isL c = true
  · rw [if_pos hL] at h ⊢
    unfold wordR at h ⊢
    by_cases h12 : 12 < ((c :: r).takeWhile isI).length
    · rw [if_pos h12] at h; cases h
    · rw [if_neg h12]
      have htw : (c :: r).takeWhile isI = c :: r.takeWhile isI := by rw [List.takeWhile_cons, if_pos (isL_isI c hL)]
      have hall := all_tw isI (c :: r)
      cases hk : isKw ((c :: r).takeWhile isI)
      · refine ⟨fun _ => ?_, fun e => by simp at e, fun e => by simp at e, by simp⟩
        show isNm ((c :: r).takeWhile isI) = true
        unfold isNm
        rw [hk, hall, decide_eq_true (by omega : ((c :: r).takeWhile isI).length ≤ 12), htw]
        simp [hL]
      · refine ⟨fun e => by simp at e, fun e => by simp at e, fun _ => hk, by simp⟩
  · rw [if_neg hL] at h ⊢
    by_cases hD : isD c = true
    · rw [if_pos hD] at h ⊢
      unfold numR at h ⊢
      split at h
      · cases h
      · rename_i h2
        rw [if_neg h2]
        have hn : numOk ((c :: r).takeWhile isD) = true := by
          cases hq : numOk ((c :: r).takeWhile isD)
          · exact absurd (by rw [hq]; simp) h2
          · rfl
        refine ⟨fun e => (by cases e), fun _ => ⟨⟨?_, all_tw _ _⟩, hn⟩, fun e => (by cases e), by simp⟩
        show ((c :: r).takeWhile isD).isEmpty = false
        rw [List.takeWhile_cons, if_pos hD]; rfl
    · rw [if_neg hD] at h ⊢
      unfold sgnR at h ⊢
      split at h
      · cases h
      · rename_i h2
        rw [if_neg h2]
        exact ⟨fun e => (by cases e), fun e => (by cases e), fun e => (by cases e), by simp⟩
theorem scanA_ok : ∀ (f : Nat) (l : List UInt8) (line : Nat) (acc : List Tok), (∀ t ∈ acc, TOk t) → ∀ t ∈ (scanA f l line acc).1, TOk t
  | f, [], line, acc, h => by rw [scanA_nil]; exact h
  | 0, _ :: _, _, acc, h => by unfold scanA; exact h
  | f + 1, c :: r, line, acc, h => by
    unfold scanA
    split
    · exact scanA_ok f r (line + 1) acc h
    · split
      · exact scanA_ok f r line acc h
      · split
        · exact scanA_ok f _ line acc h
        · split
          · rename_i h0
            refine scanA_ok f _ line _ (fun t ht => ?_)
            rcases List.mem_append.1 ht with ht | ht
            · exact h t ht
            · rw [List.mem_singleton.1 ht]; exact first_ok c r line h0
          · intro t ht; cases ht
theorem scan_ok (l : List UInt8) : ∀ t ∈ (scan l).1, TOk t := by
  unfold scan
  split
  · intro t ht; cases ht
  · exact scanA_ok _ _ _ _ (fun t ht => by cases ht)
end Go.Proofs.YtommnhglgedflaaGreatDoor.Pz
end
section
set_option linter.unusedSimpArgs false
set_option linter.unusedVariables false
namespace Go.Proofs.YtommnhglgedflaaGreatDoor.Pz
open Go.RowKit Md Tk
/-- A token's line, its kind, its sign. -/
def TL (N : Nat) (t : Tok) : Prop := (1 ≤ t.line ∧ t.line ≤ N) ∧ 1 ≤ t.kind ∧ (t.kind = 4 → sgs.contains t.text = true) ∧ t.text.length ≤ N
def TsL (ts : Toks) : Prop := ∀ t ∈ ts, TL 4097 t
theorem TsL.tail {ts : Toks} (h : TsL ts) : TsL ts.tail := fun t ht => h t (List.mem_of_mem_tail ht)
theorem sgOf_mem (l : List UInt8) (h : (sgOf l).isEmpty = false) : sgs.contains (sgOf l) = true := by
  unfold sgOf at h ⊢
  cases hf : sgs.find? fun g => g.isPrefixOf l with
  | none => rw [hf] at h; exact absurd h (by decide)
  | some g =>
    have := List.mem_of_find?_eq_some hf
    simpa using this
theorem first_kind (c : UInt8) (r : List UInt8) (line N : Nat) (h0 : 1 ≤ line) (h1 : line + (c :: r).length ≤ N) (h : (first (c :: r)).1 = 0) : TL N ⟨(first (c :: r)).2.1, (first (c :: r)).2.2, line⟩ := by
  have hl := (first_len c r h).2.1
  suffices hs : 1 ≤ (first (c :: r)).2.1 ∧ ((first (c :: r)).2.1 = 4 → sgs.contains (first (c :: r)).2.2 = true) from ⟨⟨h0, (by omega : line ≤ N)⟩, hs.1, hs.2, by show (first (c :: r)).2.2.length ≤ N; omega⟩
  clear hl
  unfold first at h ⊢
  split
  · rename_i hL
    rw [if_pos hL] at h
    unfold wordR at h ⊢
    split at h
    · cases h
    · rename_i h12
      rw [if_neg h12]
      cases isKw ((c :: r).takeWhile isI)
      · exact ⟨Nat.le_refl 1, fun e => by simp at e⟩
      · exact ⟨(by simp : 1 ≤ 3), fun e => by simp at e⟩
  · rename_i hL
    rw [if_neg hL] at h
    split
    · rename_i hD
      rw [if_pos hD] at h
      unfold numR at h ⊢
      split at h
      · cases h
      · rename_i h2; rw [if_neg h2]; exact ⟨(by simp : 1 ≤ 2), fun e => by simp at e⟩
    · rename_i hD
      rw [if_neg hD] at h
      unfold sgnR at h ⊢
      split at h
      · cases h
      · rename_i h2
        rw [if_neg h2]
        exact ⟨(by simp : 1 ≤ 4), fun _ => sgOf_mem _ (by simpa using h2)⟩
theorem scanA_tl (N : Nat) : ∀ (f : Nat) (l : List UInt8) (line : Nat) (acc : List Tok), (∀ t ∈ acc, TL N t) → 1 ≤ line → line + l.length ≤ N → (∀ t ∈ (scanA f l line acc).1, TL N t) ∧ ((scanA f l line acc).2.1 ≠ 0 → 1 ≤ (scanA f l line acc).2.2)
  | f, [], line, acc, h, _, _ => by rw [scanA_nil]; exact ⟨h, fun e => absurd rfl e⟩
  | 0, _ :: _, _, acc, h, _, _ => by unfold scanA; exact ⟨h, fun e => absurd rfl e⟩
  | f + 1, c :: r, line, acc, h, h1, hN => by
    simp only [List.length_cons] at hN
    unfold scanA
    split
    · exact scanA_tl N f r (line + 1) acc h (by omega) (by omega)
    · split
      · exact scanA_tl N f r line acc h h1 (by omega)
      · split
        · have : ((c :: r).dropWhile (· != 10)).length ≤ (c :: r).length := (List.dropWhile_suffix _).length_le
          simp only [List.length_cons] at this
          exact scanA_tl N f _ line acc h h1 (by omega)
        · split
          · rename_i h0
            refine scanA_tl N f _ line _ (fun t ht => ?_) h1 (by simp only [List.length_drop, List.length_cons]; omega)
            rcases List.mem_append.1 ht with ht | ht
            · exact h t ht
            · rw [List.mem_singleton.1 ht]; exact first_kind c r line N h1 (by simp only [List.length_cons]; omega) h0
          · exact ⟨fun t ht => (by cases ht), fun _ => h1⟩
theorem scanA_len : ∀ (f : Nat) (l : List UInt8) (line : Nat) (acc : List Tok), (scanA f l line acc).1.length ≤ acc.length + l.length
  | f, [], line, acc => by rw [scanA_nil]; simp
  | 0, _ :: _, _, acc => by unfold scanA; simp
  | f + 1, c :: r, line, acc => by
    unfold scanA
    split
    · have := scanA_len f r (line + 1) acc
      simp only [List.length_cons]; omega
    · split
      · have := scanA_len f r line acc
        simp only [List.length_cons]; omega
      · split
        · have h1 : ((c :: r).dropWhile (· != 10)).length ≤ (c :: r).length := (List.dropWhile_suffix _).length_le
          have := scanA_len f ((c :: r).dropWhile (· != 10)) line acc
          omega
        · split
          · rename_i h0
            have hl := (first_len c r h0).1
            have := scanA_len f ((c :: r).drop (first (c :: r)).2.2.length) line (acc ++ [⟨(first (c :: r)).2.1, (first (c :: r)).2.2, line⟩])
            simp only [List.length_append, List.length_drop, List.length_cons, List.length_nil] at this ⊢
            have := (first_len c r h0).2.1
            simp only [List.length_cons] at this
            omega
          · simp
theorem scan_tl (l : List UInt8) : (∀ t ∈ (scan l).1, TL 4097 t) ∧ (scan l).1.length ≤ 4096 ∧ ((scan l).2.1 ≠ 0 → l.length ≤ 4096 → 1 ≤ (scan l).2.2) := by
  unfold scan
  split
  · rename_i h
    exact ⟨fun t ht => (by cases ht), Nat.zero_le _, fun _ hl => absurd h (by omega)⟩
  · rename_i h
    obtain ⟨h1, h2⟩ := scanA_tl 4097 l.length l 1 [] (fun t ht => by cases ht) (Nat.le_refl _) (by omega)
    refine ⟨h1, ?_, fun e _ => h2 e⟩
    have := scanA_len l.length l 1 []
    simp only [List.length_nil] at this
    omega
/-- Words that begin nothing, and signs that are no words. -/
theorem kw_binOf : ∀ x : List UInt8, isKw x = true → binOf x = (0, 0) := by
  have : (kws.all fun x => binOf x == (0, 0)) = true := by decide
  intro x hx
  have hm : x ∈ kws := by simpa [isKw] using hx
  simpa using List.all_eq_true.1 this x hm
theorem sg_stOf : ∀ x : List UInt8, sgs.contains x = true → stOf x = 0 ∧ dcOf x = 0 ∧ isKw x = false := by
  have : (sgs.all fun x => stOf x == 0 && (dcOf x == 0 && !isKw x)) = true := by decide
  intro x hx
  have hm : x ∈ sgs := by simpa using hx
  simpa using List.all_eq_true.1 this x hm
end Go.Proofs.YtommnhglgedflaaGreatDoor.Pz
end
section
set_option linter.unusedVariables false
namespace Go.Proofs.YtommnhglgedflaaGreatDoor.Pz
open Go.RowKit Md Tk
theorem bind_lt {α β : Type} {x : Res α} {f : α → Toks → Res β} {b : β} {r : Toks} (h : x.bind f = .ok b r) : ∃ a r', x = .ok a r' ∧ f a r' = .ok b r := by
  cases x with
  | ok a r' => exact ⟨a, r', rfl, h⟩
  | no r' => cases h
theorem nameR_lt {ts r : Toks} {s : ByteArray} (h : nameR ts = .ok s r) : r.length < ts.length ∧ isName ts = true ∧ r = ts.tail ∧ s = tx (nextT ts) := by
  unfold nameR at h
  split at h
  · rename_i hn
    simp only [Res.ok.injEq] at h
    obtain ⟨rfl, rfl⟩ := h
    exact ⟨name_len hn, hn, rfl, rfl⟩
  · cases h
theorem need_lt {x : List UInt8} {ts r : Toks} {u : Unit} (h : need x ts = .ok u r) : r.length < ts.length ∧ at' x ts = true ∧ r = ts.tail := by
  unfold need at h
  split at h
  · rename_i hn
    simp only [Res.ok.injEq] at h
    obtain ⟨-, rfl⟩ := h
    exact ⟨at_len hn, hn, rfl⟩
  · cases h
theorem expr_len {ts r : Toks} {x : E} (h : expr ts = .ok x r) : r.length < ts.length := pe_len _ (.bin 1) ts x r h
theorem asg_len {h : StH} {ts r : Toks} {s : StL} (e : asg h ts = .ok s r) : r.length < ts.length := by
  unfold asg at e
  obtain ⟨h', r1, e1, e⟩ := bind_lt e
  obtain ⟨u, r2, e2, e⟩ := bind_lt e
  obtain ⟨r3, e3, h3, rfl⟩ := close_ok e
  obtain ⟨x, e3, -⟩ := map_ok e3
  have k1 : r1.length ≤ ts.length := by
    split at e1
    · rename_i ha
      obtain ⟨x, e1, -⟩ := map_ok e1
      obtain ⟨r4, e4, h4, rfl⟩ := close_ok e1
      have := at_len ha
      have := expr_len e4
      have := at_len h4
      omega
    · simp only [Res.ok.injEq] at e1
      rw [e1.2]
      exact Nat.le_refl _
  have := (need_lt e2).1
  have := expr_len e3
  have := at_len h3
  omega
theorem blk_lt {f : Nat} {ts r : Toks} {s : StL} (ih : ∀ ts s r, ps f false ts = .ok s r → r.length < ts.length) (h : (if at' [123] ts then ps f false ts.tail else .no ts) = .ok s r) : r.length < ts.length := by
  split at h
  · rename_i ha
    have := at_len ha
    have := ih _ _ _ h
    omega
  · cases h
theorem ps_len : ∀ (f : Nat) (b : Bool) (ts : Toks) (s : StL) (r : Toks), ps f b ts = .ok s r → r.length < ts.length
  | 0, b, ts, s, r, h => by cases b <;> simp [ps] at h
  | f + 1, false, ts, s, r, h => by
    unfold ps at h
    split at h
    · rename_i ha
      simp only [Res.ok.injEq] at h
      obtain ⟨-, rfl⟩ := h
      exact at_len ha
    · split at h
      · cases h
      · rename_i x r' hx
        obtain ⟨l, h, -⟩ := map_ok h
        have := ps_len f true ts x r' hx
        have := ps_len f false r' l r h
        omega
  | f + 1, true, ts, s, r, h => by
    have hb := fun (ts : Toks) (s : StL) (r : Toks) => blk_lt (ts := ts) (s := s) (r := r) (fun ts s r => ps_len f false ts s r)
    unfold ps at h
    dsimp only at h
    have ht := tail_le ts
    split at h
    · have := asg_len h
      omega
    · split at h
      · split at h
        · cases h
        · split at h
          · obtain ⟨x, r1, e1, h⟩ := bind_lt h
            obtain ⟨b, r2, e2, h⟩ := bind_lt h
            have := expr_len e1
            have := hb _ _ _ e2
            split at h
            · rename_i ha
              obtain ⟨e, h, -⟩ := map_ok h
              have := hb _ _ _ h
              have := at_len ha
              omega
            · simp only [Res.ok.injEq] at h
              obtain ⟨-, rfl⟩ := h
              omega
          · split at h
            · obtain ⟨x, r1, e1, h⟩ := bind_lt h
              obtain ⟨b, h, -⟩ := map_ok h
              have := expr_len e1
              have := hb _ _ _ h
              omega
            · split at h
              · obtain ⟨b, h, -⟩ := map_ok h
                have := hb _ _ _ h
                omega
              · obtain ⟨x, r1, e1, h⟩ := bind_lt h
                have := (nameR_lt e1).1
                split at h
                · obtain ⟨b, h, -⟩ := map_ok h
                  have := hb _ _ _ h
                  omega
                · split at h
                  · obtain ⟨r3, e3, h3, rfl⟩ := close_ok h
                    obtain ⟨x, e3, -⟩ := map_ok e3
                    have := expr_len e3
                    have := at_len h3
                    omega
                  · split at h
                    · obtain ⟨r3, e3, h3, rfl⟩ := close_ok h
                      obtain ⟨x, e3, -⟩ := map_ok e3
                      have := (nameR_lt e3).1
                      have := at_len h3
                      omega
                    · obtain ⟨u, h, -⟩ := map_ok h
                      have := (need_lt h).1
                      omega
      · cases h
theorem blk_len {f : Nat} {ts r : Toks} {s : StL} (h : blk f ts = .ok s r) : r.length < ts.length := blk_lt (fun ts s r => ps_len f false ts s r) h
theorem sizeR_len {d d' : De} {ts r : Toks} (h : sizeR d ts = .ok d' r) : r.length ≤ ts.length ∧ d'.kind = d.kind := by
  unfold sizeR at h
  have ht := tail_le ts
  split at h
  · split at h
    · split at h
      · cases h
      · obtain ⟨u, h2, rfl⟩ := map_ok h
        have := (need_lt h2).1
        have := tail_le ts.tail
        exact ⟨by omega, rfl⟩
    · cases h
  · simp only [Res.ok.injEq] at h
    obtain ⟨rfl, rfl⟩ := h
    exact ⟨Nat.le_refl _, rfl⟩
theorem initR_len {d d' : De} {ts r : Toks} (h : initR d ts = .ok d' r) : r.length ≤ ts.length ∧ d'.kind = d.kind := by
  unfold initR at h
  have ht := tail_le ts
  have ht2 := tail_le ts.tail
  have ht3 := tail_le ts.tail.tail
  split at h
  · split at h
    · split at h
      · simp only [Res.ok.injEq] at h
        obtain ⟨rfl, rfl⟩ := h
        exact ⟨by omega, rfl⟩
      · cases h
    · split at h
      · simp only [Res.ok.injEq] at h
        obtain ⟨rfl, rfl⟩ := h
        exact ⟨by omega, rfl⟩
      · cases h
  · simp only [Res.ok.injEq] at h
    obtain ⟨rfl, rfl⟩ := h
    exact ⟨Nat.le_refl _, rfl⟩
theorem declR_len {ts r : Toks} {d : De} (h : declR ts = .ok d r) : r.length < ts.length := by
  unfold declR at h
  obtain ⟨r1, h5, h1, rfl⟩ := close_ok h
  obtain ⟨s, r2, e2, h6⟩ := bind_lt h5
  clear h h5
  have h := h6
  clear h6
  have ht := tail_le ts
  have h2 := (nameR_lt e2).1
  have h3 := at_len h1
  dsimp only at h
  split at h
  · obtain ⟨d', r3, e3, h⟩ := bind_lt h
    have := (sizeR_len e3).1
    have := (initR_len h).1
    omega
  · split at h
    · have := (initR_len h).1
      omega
    · split at h
      · obtain ⟨o, h, -⟩ := map_ok h
        have := (nameR_lt h).1
        omega
      · simp only [Res.ok.injEq] at h
        obtain ⟨-, rfl⟩ := h
        omega
theorem locsR_len : ∀ (f : Nat) (ts : Toks) (l : List ByteArray) (r : Toks), locsR f ts = .ok l r → r.length < ts.length
  | 0, ts, l, r, h => by simp [locsR] at h
  | f + 1, ts, l, r, h => by
    unfold locsR at h
    obtain ⟨s, r1, e1, h⟩ := bind_lt h
    have h1 := (nameR_lt e1).1
    split at h
    · rename_i ha
      obtain ⟨l', h, -⟩ := map_ok h
      have := locsR_len f _ _ _ h
      have := at_len ha
      omega
    · simp only [Res.ok.injEq] at h
      obtain ⟨-, rfl⟩ := h
      exact h1
theorem thrR_len {ts r : Toks} {t : Th} (h : thrR ts = .ok t r) : r.length < ts.length := by
  unfold thrR at h
  obtain ⟨s, r1, e1, h⟩ := bind_lt h
  obtain ⟨u, r2, e2, h⟩ := bind_lt h
  obtain ⟨l, r3, e3, h⟩ := bind_lt h
  obtain ⟨b, h, -⟩ := map_ok h
  have ht := tail_le ts
  have h1 := (nameR_lt e1).1
  have h2 := (need_lt e2).1
  have h4 := blk_len h
  have h3 : r3.length ≤ r2.length := by
    split at e3
    · simp only [Res.ok.injEq] at e3
      obtain ⟨-, rfl⟩ := e3
      exact tail_le r2
    · obtain ⟨r5, e5, h5, rfl⟩ := close_ok e3
      have := locsR_len _ _ _ _ e5
      have := at_len h5
      omega
  omega
end Go.Proofs.YtommnhglgedflaaGreatDoor.Pz
end
