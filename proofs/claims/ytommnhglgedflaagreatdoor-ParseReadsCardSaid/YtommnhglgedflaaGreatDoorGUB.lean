/-
  The second parser as plain functions, and that it says what the first one says. No program in sight.
  The second parser's table of signs says what the first one's says; its words. No program in sight.
  The second parser's statements, method by method; equations of its expressions. No program in sight.
  The second parser never reads back; where its expressions go on. No program in sight.
  The second parser says what the first one says. No program in sight.
  The second parser says what the first one says: statements. No program in sight.
  The second parser's statements read on: what their fuel is. No program in sight.
  The second parser says what the first one says: declarations, threads, programs. No program in sight.
-/
import Derived.Test.YtommnhglgedflaaGreatDoorGZB
import Derived.Test.YtommnhglgedflaaGreatDoorGZA
section
set_option linter.unusedVariables false
namespace Go.Proofs.YtommnhglgedflaaGreatDoor.Pz
open Go.RowKit Md Tk
/-- What is left, or the line of the first token that does not fit. -/
inductive St where
  | go (r : Toks)
  | bad (n : Int)
def St.toks : St → Toks
  | .go r => r
  | .bad _ => []
def St.good : St → Bool
  | .go _ => true
  | .bad _ => false
def St.adv : St → St
  | .go r => .go r.tail
  | .bad n => .bad n
def fail (ts : Toks) : St → St
  | .go r => .bad (lineAt ts r)
  | .bad n => .bad n
def wantS (ts : Toks) (x : List UInt8) (s : St) : St := if at' x s.toks then s.adv else fail ts s
def nameS (ts : Toks) (s : St) : ByteArray × St := if isName s.toks then (tx (nextT s.toks), s.adv) else (⟨#[]⟩, fail ts s)
def numS (ts : Toks) (s : St) : Int × St := if isNum s.toks then ((val (nextT s.toks) : Nat), s.adv) else (0, fail ts s)
def exprS (ts : Toks) : Nat → M → St → E × St
  | 0, _, s => (⟨0, 0, ⟨#[]⟩, .nil⟩, fail ts s)
  | f + 1, .bin lv, s => if 5 < lv then exprS ts f .un s else exprS ts f (.lp lv (exprS ts f (.bin (lv + 1)) s).1) (exprS ts f (.bin (lv + 1)) s).2
  | f + 1, .lp lv l, s => if opAt lv s.toks == 0 then (l, s) else
    if lv = 3 then (mk2 (opAt lv s.toks) l (exprS ts f (.bin (lv + 1)) s.adv).1, (exprS ts f (.bin (lv + 1)) s.adv).2)
    else exprS ts f (.lp lv (mk2 (opAt lv s.toks) l (exprS ts f (.bin (lv + 1)) s.adv).1)) (exprS ts f (.bin (lv + 1)) s.adv).2
  | f + 1, .un, s => if at' [45] s.toks then (mk1 4 (exprS ts f .un s.adv).1, (exprS ts f .un s.adv).2)
    else if at' [33] s.toks then (mk1 5 (exprS ts f .un s.adv).1, (exprS ts f .un s.adv).2) else exprS ts f .pr s
  | f + 1, .pr, s => if isNum s.toks then (⟨1, (val (nextT s.toks) : Nat), ⟨#[]⟩, .nil⟩, s.adv)
    else if at' [40] s.toks then ((exprS ts f (.bin 1) s.adv).1, wantS ts [41] (exprS ts f (.bin 1) s.adv).2)
    else if at' [91] (nameS ts s).2.toks then (ixE (nameS ts s).1 (exprS ts f (.bin 1) (nameS ts s).2.adv).1, wantS ts [93] (exprS ts f (.bin 1) (nameS ts s).2.adv).2)
    else (⟨2, 0, (nameS ts s).1, .nil⟩, (nameS ts s).2)
def exprT (ts : Toks) (s : St) : E × St := exprS ts (9 * s.toks.length + 9) (.bin 1) s
def asgI (ts : Toks) (h : StH) (s : St) : StH × St :=
  if at' [91] s.toks then ({ h with idx := .cons (exprT ts s.adv).1.op (exprT ts s.adv).1.n (exprT ts s.adv).1.nm (exprT ts s.adv).1.kids .nil }, wantS ts [93] (exprT ts s.adv).2) else (h, s)
def asgE (ts : Toks) (h : StH) (s : St) : StL × St :=
  (one (StH.ex h (exprT ts (wantS ts [61] s)).1) .nil .nil, wantS ts [59] (exprT ts (wantS ts [61] s)).2)
def asgS (ts : Toks) (h : StH) (s : St) : StL × St :=
  asgE ts (asgI ts { h with op := 1, nm := (nameS ts s).1 } (nameS ts s).2).1 (asgI ts { h with op := 1, nm := (nameS ts s).1 } (nameS ts s).2).2
def wordS (r : Toks) : Int := if nextK r == 3 then stOf (nextT r) else 0
/-- What follows a statement's name. -/
def tailS (ts : Toks) (op : Int) (h : StH) (blk : St → StL × St) (s : St) : StL × St :=
  if op == 4 || op == 5 || op == 6 then (one h (blk s).1 .nil, (blk s).2)
  else if op == 14 then (one (StH.ex h (exprT ts s).1) .nil .nil, wantS ts [59] (exprT ts s).2)
  else if op == 15 then (one { h with arg := (nameS ts s).1 } .nil .nil, wantS ts [59] (nameS ts s).2)
  else (one h .nil .nil, wantS ts [59] s)
def elseS (h : StH) (blk : St → StL × St) (b : StL) (s : St) : StL × St :=
  if at' [101, 108, 115, 101] s.toks then (one h b (blk s.adv).1, (blk s.adv).2) else (one h b .nil, s)
def psS (ts : Toks) : Nat → Bool → St → StL × St
  | 0, _, s => (.nil, fail ts s)
  | f + 1, false, s => if s.good && !at' [125] s.toks then (app (psS ts f true s).1 (psS ts f false (psS ts f true s).2).1, (psS ts f false (psS ts f true s).2).2) else (.nil, wantS ts [125] s)
  | f + 1, true, s =>
    if wordS s.toks == 0 then asgS ts (hd 0 (nextL s.toks)) s
    else if wordS s.toks == 2 then elseS (StH.ex (hd 2 (nextL s.toks)) (exprT ts s.adv).1) (fun s => psS ts f false (wantS ts [123] s)) (psS ts f false (wantS ts [123] (exprT ts s.adv).2)).1 (psS ts f false (wantS ts [123] (exprT ts s.adv).2)).2
    else if wordS s.toks == 3 then (one (StH.ex (hd 3 (nextL s.toks)) (exprT ts s.adv).1) (psS ts f false (wantS ts [123] (exprT ts s.adv).2)).1 .nil, (psS ts f false (wantS ts [123] (exprT ts s.adv).2)).2)
    else if wordS s.toks == 7 || wordS s.toks == 8 then (one (hd (wordS s.toks) (nextL s.toks)) (psS ts f false (wantS ts [123] s.adv)).1 .nil, (psS ts f false (wantS ts [123] s.adv)).2)
    else tailS ts (wordS s.toks) { hd (wordS s.toks) (nextL s.toks) with nm := (nameS ts s.adv).1 } (fun s => psS ts f false (wantS ts [123] s)) (nameS ts s.adv).2
def blkS (ts : Toks) (f : Nat) (s : St) : StL × St := psS ts f false (wantS ts [123] s)
def dcS (r : Toks) : Int := if nextK r == 3 then dcOf (nextT r) else 0
def sizeS (ts : Toks) (d : De) (s : St) : De × St :=
  if d.kind == 1 && at' [91] s.toks then
    (if isNum s.adv.toks then ({ d with size := (val (nextT s.adv.toks) : Nat) }, wantS ts [93] (numS ts (if val (nextT s.adv.toks) == 0 then fail ts s.adv else s.adv)).2)
     else (d, wantS ts [93] (numS ts s.adv).2))
  else (d, s)
def initS (ts : Toks) (d : De) (s : St) : De × St :=
  if (d.kind == 1 || d.kind == 2) && at' [61] s.toks then
    (if at' [45] s.adv.toks then ({ d with init := -(numS ts s.adv.adv).1 }, (numS ts s.adv.adv).2) else ({ d with init := (numS ts s.adv).1 }, (numS ts s.adv).2))
  else (d, s)
def onS (ts : Toks) (d : De) (s : St) : De × St := if d.kind == 5 then ({ d with on := (nameS ts s).1 }, (nameS ts s).2) else (d, s)
def thenS {α : Type} (q : α × St) (f : α → St → α × St) : α × St := f q.1 q.2
def declS (ts : Toks) (s : St) : De × St :=
  let q := thenS (thenS (sizeS ts ⟨dcS s.toks, nextL s.toks, (nameS ts s.adv).1, 0, 0, ⟨#[]⟩⟩ (nameS ts s.adv).2) (initS ts)) (onS ts)
  (q.1, wantS ts [59] q.2)
def locsS (ts : Toks) : Nat → List ByteArray → St → List ByteArray × St
  | 0, l, s => (l, s)
  | f + 1, l, s => if at' [44] s.toks then locsS ts f (l ++ [(nameS ts s.adv).1]) (nameS ts s.adv).2 else (l, s)
def paramS (ts : Toks) (s : St) : List ByteArray × St :=
  if at' [41] s.toks then ([], s) else locsS ts (nameS ts s).2.toks.length [(nameS ts s).1] (nameS ts s).2
def thrS (ts : Toks) (s : St) : Th × St :=
  let n := nameS ts (wantS ts [116, 104, 114, 101, 97, 100] s)
  let l := paramS ts (wantS ts [40] n.2)
  let s4 := wantS ts [41] l.2
  let b := blkS ts (3 * s4.toks.length + 3) s4
  (⟨n.1, nextL s.toks, l.1, b.1⟩, b.2)
def declsS (ts : Toks) : Nat → List De → St → List De × St
  | 0, l, s => (l, s)
  | f + 1, l, s => if isDecl s.toks then declsS ts f (l ++ [(declS ts s).1]) (declS ts s).2 else (l, s)
def thrsS (ts : Toks) : Nat → List Th → St → List Th × St
  | 0, l, s => (l, s)
  | f + 1, l, s => if s.good && (l.isEmpty || !s.toks.isEmpty) then thrsS ts f (l ++ [(thrS ts s).1]) (thrS ts s).2 else (l, s)
def progT (ts : Toks) (ds : List De) (s : St) : Pr × St := (⟨ds, (thrsS ts (s.toks.length + 1) [] s).1⟩, (thrsS ts (s.toks.length + 1) [] s).2)
def progS (ts : Toks) : Pr × St := progT ts (declsS ts ts.length [] (.go ts)).1 (declsS ts ts.length [] (.go ts)).2
def outP (p : Pr) : St → Pr × Int × Int
  | .go _ => (p, 0, 0)
  | .bad n => (⟨[], []⟩, 3, n)
def parseS (s : List UInt8) : Pr × Int × Int :=
  if (scan s).2.1 = 0 then outP (progS (scan s).1).1 (progS (scan s).1).2 else (⟨[], []⟩, (scan s).2.1, (scan s).2.2)
def endS (ts : Toks) (s : St) : St := if s.good && !s.toks.isEmpty then fail ts s else s
def outE (x : E) : St → E × Int × Int
  | .go _ => (x, 0, 0)
  | .bad n => (⟨0, 0, ⟨#[]⟩, .nil⟩, 3, n)
def parseES (s : List UInt8) : E × Int × Int :=
  if (scan s).2.1 = 0 then outE (exprT (scan s).1 (.go (scan s).1)).1 (endS (scan s).1 (exprT (scan s).1 (.go (scan s).1)).2)
  else (⟨0, 0, ⟨#[]⟩, .nil⟩, (scan s).2.1, (scan s).2.2)
end Go.Proofs.YtommnhglgedflaaGreatDoor.Pz
end
section
set_option linter.unusedVariables false
set_option linter.unusedSimpArgs false
namespace Go.Proofs.YtommnhglgedflaaGreatDoor.Pz
open Go.RowKit Md Tk
/-- Signs, operators, levels. -/
def bnS : List (List UInt8 × Int × Int) := [([124, 124], 18, 1), ([38, 38], 17, 2), ([61, 61], 11, 3), ([33, 61], 12, 3), ([60], 13, 3), ([60, 61], 14, 3), ([62], 15, 3), ([62, 61], 16, 3), ([43], 6, 4), ([45], 7, 4), ([42], 8, 5), ([47], 9, 5), ([37], 10, 5)]
def bnF (lv : Int) (r : Toks) : List (List UInt8 × Int × Int) → Int
  | [] => 0
  | x :: t => if x.2.2 == lv && at' x.1 r then x.2.1 else bnF lv r t
theorem bnF_none {lv : Int} {r : Toks} : ∀ {l : List (List UInt8 × Int × Int)}, (∀ x ∈ l, at' x.1 r = false) → bnF lv r l = 0
  | [], _ => rfl
  | x :: t, h => by
    unfold bnF
    rw [h x (by simp), Bool.and_false, if_neg (by decide)]
    exact bnF_none (fun y hy => h y (by simp [hy]))
theorem at_kw {x : List UInt8} (hx : isKw x = false) {t : Tok} {r : Toks} (hk : t.kind = 3) (h : isKw t.text = true) : at' x (t :: r) = false := by
  unfold at'
  have : (nextT (t :: r) == x) = false := by
    rw [beq_eq_false_iff_ne]; rintro e
    have e : t.text = x := e
    rw [e, hx] at h; cases h
  rw [this, Bool.and_false]
theorem bnF_chain (lv : Int) (y : List UInt8) : ∀ l : List (List UInt8 × Int × Int), (l.map (·.1)).Nodup → ∀ x ∈ l, x.1 = y → ∀ r : Toks, (∀ z : List UInt8, at' z r = (y == z)) → bnF lv r l = if x.2.2 == lv then x.2.1 else 0
  | [], _, x, hx, _, _, _ => by cases hx
  | z :: t, hn, x, hx, hy, r, hr => by
    simp only [List.map_cons, List.nodup_cons] at hn
    unfold bnF
    rw [hr z.1]
    by_cases hz : z.1 = y
    · have hxz : x = z := by
        rcases List.mem_cons.1 hx with h | h
        · exact h
        · exfalso; apply hn.1; rw [hz, ← hy]; exact List.mem_map.2 ⟨x, h, rfl⟩
      subst hxz
      have : (y == x.1) = true := by rw [hz]; simp
      rw [this, Bool.and_true]
      split
      · rfl
      · exact bnF_none (fun w hw => by
          rw [hr w.1, beq_eq_false_iff_ne]; rintro rfl
          apply hn.1; rw [hz]; exact List.mem_map.2 ⟨w, hw, rfl⟩)
    · have : (y == z.1) = false := by rw [beq_eq_false_iff_ne]; exact fun e => hz e.symm
      rw [this, Bool.and_false, if_neg (by decide)]
      rcases List.mem_cons.1 hx with h | h
      · exact absurd (by rw [← h]; exact hy) hz
      · exact bnF_chain lv y t hn.2 x h hy r hr
theorem bn_signs : ∀ x ∈ bnS, isKw x.1 = false ∧ binOf x.1 = (x.2.1, x.2.2) ∧ (x.2.1 == 0) = false := by decide
theorem bn_nodup : (bnS.map (·.1)).Nodup := by decide
theorem binOf_other {y : List UInt8} (h : ∀ x ∈ bnS, x.1 ≠ y) : binOf y = (0, 0) := by
  have h' : ∀ x ∈ bnS, (y == x.1) = false := fun x hx => by rw [beq_eq_false_iff_ne]; exact fun e => h x hx e.symm
  simp only [bnS, List.mem_cons, List.not_mem_nil, or_false, forall_eq_or_imp, forall_eq] at h'
  unfold binOf
  obtain ⟨h1, h2, h3, h4, h5, h6, h7, h8, h9, h10, h11, h12, h13⟩ := h'
  simp [h1, h2, h3, h4, h5, h6, h7, h8, h9, h10, h11, h12, h13]
theorem bnF_eq (lv : Int) {r : Toks} (h : ∀ t ∈ r, TOk t) : bnF lv r bnS = opAt lv r := by
  cases r with
  | nil => rw [bnF_none (fun x _ => by simp [at', nextK])]; simp [opAt, nextK]
  | cons t q =>
    have ht := h t (by simp)
    by_cases h4 : t.kind = 4
    · have hr : ∀ z : List UInt8, at' z (t :: q) = (t.text == z) := fun z => by simp [at', nextK, nextT, h4]
      have ho : opAt lv (t :: q) = if (binOf t.text).2 == lv then (binOf t.text).1 else 0 := by simp [opAt, nextK, nextT, h4]
      rw [ho]
      by_cases hm : ∃ x ∈ bnS, x.1 = t.text
      · obtain ⟨x, hx, e⟩ := hm
        rw [bnF_chain lv t.text bnS bn_nodup x hx e _ hr, ← e, (bn_signs x hx).2.1]
      · rw [bnF_none (fun x hx => by rw [hr, beq_eq_false_iff_ne]; exact fun e => hm ⟨x, hx, e.symm⟩), binOf_other (fun x hx e => hm ⟨x, hx, e⟩)]
        split <;> rfl
    · have ho : opAt lv (t :: q) = 0 := by simp [opAt, nextK, h4]
      rw [ho]
      refine bnF_none (fun x hx => ?_)
      by_cases h3 : t.kind = 3
      · exact at_kw (bn_signs x hx).1 h3 (ht.2.2.1 h3)
      · simp [at', nextK, h3, h4]
/-- The words that begin a statement, and those that begin a declaration. -/
def stW : List (List UInt8) := [[105, 102], [119, 104, 105, 108, 101], [108, 111, 99, 107], [114, 101, 97, 100], [119, 114, 105, 116, 101], [116, 114, 97, 110, 115, 97, 99, 116, 105, 111, 110], [97, 116, 111, 109, 105, 99], [119, 97, 105, 116], [110, 111, 116, 105, 102, 121], [110, 111, 116, 105, 102, 121, 97, 108, 108], [115, 112, 97, 119, 110], [106, 111, 105, 110], [115, 101, 116], [103, 101, 116]]
def dcW : List (List UInt8) := [[118, 97, 114], [118, 111, 108, 97, 116, 105, 108, 101], [109, 117, 116, 101, 120], [114, 119, 108, 111, 99, 107], [99, 111, 110, 100], [102, 117, 116, 117, 114, 101]]
/-- The number of the first word that is next, n for the first of the list; 0 for none. -/
def wdF (r : Toks) : List (List UInt8) → Int → Int
  | [], _ => 0
  | x :: t, n => if at' x r then n else wdF r t (n + 1)
theorem wdF_none {r : Toks} : ∀ {l : List (List UInt8)} {n : Int}, (∀ x ∈ l, at' x r = false) → wdF r l n = 0
  | [], _, _ => rfl
  | x :: t, n, h => by
    unfold wdF; rw [h x (by simp), if_neg (by decide)]; exact wdF_none (fun y hy => h y (by simp [hy]))
theorem st_words : ∀ x ∈ stW, isKw x = true := by decide
theorem dc_words : ∀ x ∈ dcW, isKw x = true := by decide
theorem at_sg {x : List UInt8} (hx : isKw x = true) {t : Tok} {r : Toks} (hk : t.kind = 4) (h : sgs.contains t.text = true) : at' x (t :: r) = false := by
  unfold at'
  have : (nextT (t :: r) == x) = false := by
    rw [beq_eq_false_iff_ne]; rintro e
    have e : t.text = x := e
    have := (sg_stOf _ h).2.2
    rw [e, hx] at this; cases this
  rw [this, Bool.and_false]
theorem stF_kw (r : Toks) (y : List UInt8) (hr : ∀ z : List UInt8, at' z r = (y == z)) : wdF r stW 2 = stOf y := by
  unfold stW stOf
  simp only [wdF, hr]
  repeat' split
  all_goals first | rfl | omega
theorem dcF_kw (r : Toks) (y : List UInt8) (hr : ∀ z : List UInt8, at' z r = (y == z)) : wdF r dcW 1 = dcOf y := by
  unfold dcW dcOf
  simp only [wdF, hr]
  repeat' split
  all_goals first | rfl | omega
theorem wd_any {r : Toks} (h : ∀ t ∈ r, TOk t) (hl : TsL r) (l : List (List UInt8)) (hw : ∀ x ∈ l, isKw x = true) (n : Int) (f : List UInt8 → Int) (hk : ∀ y : List UInt8, (∀ z : List UInt8, at' z r = (y == z)) → wdF r l n = f y) : wdF r l n = if nextK r == 3 then f (nextT r) else 0 := by
  cases r with
  | nil => rw [wdF_none (fun x _ => by simp [at', nextK])]; rfl
  | cons t q =>
    by_cases h3 : t.kind = 3
    · rw [hk t.text (fun z => by simp [at', nextK, nextT, h3])]; simp [nextK, nextT, h3]
    · have e : (nextK (t :: q) == 3) = false := by simp [nextK, h3]
      rw [e]
      refine (wdF_none (fun x hx => ?_)).trans (by rfl)
      by_cases h4 : t.kind = 4
      · exact at_sg (hw x hx) h4 ((hl t (by simp)).2.2.1 h4)
      · simp [at', nextK, h3, h4]
theorem word_eq {r : Toks} (h : ∀ t ∈ r, TOk t) (hl : TsL r) : wdF r stW 2 = wordS r := wd_any h hl stW st_words 2 stOf (stF_kw r)
theorem decl_eq {r : Toks} (h : ∀ t ∈ r, TOk t) (hl : TsL r) : wdF r dcW 1 = dcS r := wd_any h hl dcW dc_words 1 dcOf (dcF_kw r)
/-- The number of the last word that is next. -/
def lsF (r : Toks) : List (List UInt8) → Int → Int → Int
  | [], _, a => a
  | x :: t, n, a => lsF r t (n + 1) (if at' x r then n else a)
theorem lsF_none {r : Toks} : ∀ {l : List (List UInt8)} {n a : Int}, (∀ x ∈ l, at' x r = false) → lsF r l n a = a
  | [], _, _, _ => rfl
  | x :: t, n, a, h => by
    unfold lsF; rw [h x (by simp), if_neg (by decide)]; exact lsF_none (fun y hy => h y (by simp [hy]))
theorem lsF_one {r : Toks} {y : List UInt8} (hr : ∀ z : List UInt8, at' z r = (y == z)) : ∀ (l : List (List UInt8)) (n : Int), l.Nodup → lsF r l n 0 = wdF r l n
  | [], _, _ => rfl
  | x :: t, n, hn => by
    simp only [List.nodup_cons] at hn
    unfold lsF wdF
    rw [hr x]
    by_cases hx : y = x
    · rw [hx, if_pos (by simp), if_pos (by simp)]
      exact lsF_none (fun z hz => by rw [hr z, beq_eq_false_iff_ne]; rintro rfl; rw [hx] at hz; exact hn.1 hz)
    · have : (y == x) = false := by rw [beq_eq_false_iff_ne]; exact hx
      rw [this, if_neg (by decide), if_neg (by decide)]
      exact lsF_one hr t (n + 1) hn.2
theorem last_eq {r : Toks} (h : ∀ t ∈ r, TOk t) (hl : TsL r) : lsF r dcW 1 0 = dcS r := by
  rw [← decl_eq h hl]
  cases r with
  | nil => rw [wdF_none (fun x _ => by simp [at', nextK]), lsF_none (fun x _ => by simp [at', nextK])]
  | cons t q =>
    by_cases h3 : t.kind = 3
    · exact lsF_one (y := t.text) (fun z => by simp [at', nextK, nextT, h3]) dcW 1 (by decide)
    · have hx : ∀ x ∈ dcW, at' x (t :: q) = false := fun x hx => by
        by_cases h4 : t.kind = 4
        · exact at_sg (dc_words x hx) h4 ((hl t (by simp)).2.2.1 h4)
        · simp [at', nextK, h3, h4]
      rw [wdF_none hx, lsF_none hx]
end Go.Proofs.YtommnhglgedflaaGreatDoor.Pz
end
section
set_option linter.unusedVariables false
namespace Go.Proofs.YtommnhglgedflaaGreatDoor.Pz
open Go.RowKit Md Tk
def toL2 (q : Sx × St) : StL × St := (toL q.1, q.2)
def asgEX (ts : Toks) (h : StH) (s : St) : Sx × St :=
  (⟨StH.ex h (exprT ts (wantS ts [61] s)).1, .nil, .nil⟩, wantS ts [59] (exprT ts (wantS ts [61] s)).2)
theorem asgE_x (ts : Toks) (h : StH) (s : St) : asgE ts h s = toL2 (asgEX ts h s) := by
  unfold asgE toL2 asgEX toL; dsimp only
def asgSX (ts : Toks) (h : StH) (s : St) : Sx × St :=
  asgEX ts (asgI ts { h with op := 1, nm := (nameS ts s).1 } (nameS ts s).2).1 (asgI ts { h with op := 1, nm := (nameS ts s).1 } (nameS ts s).2).2
theorem asgS_x (ts : Toks) (h : StH) (s : St) : asgS ts h s = toL2 (asgSX ts h s) := by
  unfold asgS asgSX; exact asgE_x _ _ _
def tailX (ts : Toks) (op : Int) (h : StH) (blk : St → StL × St) (s : St) : Sx × St :=
  if op == 4 || op == 5 || op == 6 then (⟨h, (blk s).1, .nil⟩, (blk s).2)
  else if op == 14 then (⟨StH.ex h (exprT ts s).1, .nil, .nil⟩, wantS ts [59] (exprT ts s).2)
  else if op == 15 then (⟨{ h with arg := (nameS ts s).1 }, .nil, .nil⟩, wantS ts [59] (nameS ts s).2)
  else (⟨h, .nil, .nil⟩, wantS ts [59] s)
theorem tailS_x (ts : Toks) (op : Int) (h : StH) (blk : St → StL × St) (s : St) : tailS ts op h blk s = toL2 (tailX ts op h blk s) := by
  unfold tailS tailX
  repeat' split
  all_goals (unfold toL2 toL; dsimp only)
def elseX (h : StH) (blk : St → StL × St) (b : StL) (s : St) : Sx × St :=
  if at' [101, 108, 115, 101] s.toks then (⟨h, b, (blk s.adv).1⟩, (blk s.adv).2) else (⟨h, b, .nil⟩, s)
theorem elseS_x (h : StH) (blk : St → StL × St) (b : StL) (s : St) : elseS h blk b s = toL2 (elseX h blk b s) := by
  unfold elseS elseX
  split <;> (unfold toL2 toL; dsimp only)
def bkS (ts : Toks) (f : Nat) (s : St) : StL × St := psS ts f false (wantS ts [123] s)
def stX (ts : Toks) (f : Nat) (s : St) : Sx × St :=
    if wordS s.toks == 0 then asgSX ts (hd 0 (nextL s.toks)) s
    else if wordS s.toks == 2 then elseX (StH.ex (hd 2 (nextL s.toks)) (exprT ts s.adv).1) (bkS ts f) (bkS ts f (exprT ts s.adv).2).1 (bkS ts f (exprT ts s.adv).2).2
    else if wordS s.toks == 3 then (⟨StH.ex (hd 3 (nextL s.toks)) (exprT ts s.adv).1, (bkS ts f (exprT ts s.adv).2).1, .nil⟩, (bkS ts f (exprT ts s.adv).2).2)
    else if wordS s.toks == 7 || wordS s.toks == 8 then (⟨hd (wordS s.toks) (nextL s.toks), (bkS ts f s.adv).1, .nil⟩, (bkS ts f s.adv).2)
    else tailX ts (wordS s.toks) { hd (wordS s.toks) (nextL s.toks) with nm := (nameS ts s.adv).1 } (bkS ts f) (nameS ts s.adv).2
theorem ps_st (ts : Toks) (f : Nat) (s : St) : psS ts (f + 1) true s = toL2 (stX ts f s) := by
  conv => lhs; unfold psS
  unfold stX
  split
  · exact asgS_x _ _ _
  · split
    · exact elseS_x _ _ _ _
    · split
      · unfold toL2 toL bkS; dsimp only
      · split
        · unfold toL2 toL bkS; dsimp only
        · exact tailS_x _ _ _ _ _
theorem ps_end (ts : Toks) (f : Nat) (s : St) (h : (s.good && !at' [125] s.toks) = false) : psS ts (f + 1) false s = (.nil, wantS ts [125] s) := by
  conv => lhs; unfold psS
  rw [if_neg (by rw [h]; decide)]
theorem ps_go (ts : Toks) (f : Nat) (s : St) (h : (s.good && !at' [125] s.toks) = true) : psS ts (f + 1) false s = (app (psS ts f true s).1 (psS ts f false (psS ts f true s).2).1, (psS ts f false (psS ts f true s).2).2) := by
  conv => lhs; unfold psS
  rw [if_pos h]
section
variable {ts : Toks} {f lv : Nat} {s : St} {l : E}
theorem xs_top (h : 5 < lv) : exprS ts (f + 1) (.bin lv) s = exprS ts f .un s := by
  conv => lhs; unfold exprS
  rw [if_pos h]
theorem xs_bin (h : ¬ 5 < lv) : exprS ts (f + 1) (.bin lv) s = exprS ts f (.lp lv (exprS ts f (.bin (lv + 1)) s).1) (exprS ts f (.bin (lv + 1)) s).2 := by
  conv => lhs; unfold exprS
  rw [if_neg h]
theorem xs_end (h : (opAt lv s.toks == 0) = true) : exprS ts (f + 1) (.lp lv l) s = (l, s) := by
  conv => lhs; unfold exprS
  rw [if_pos h]
theorem xs_3 (h : (opAt lv s.toks == 0) = false) (h3 : lv = 3) : exprS ts (f + 1) (.lp lv l) s = (mk2 (opAt lv s.toks) l (exprS ts f (.bin (lv + 1)) s.adv).1, (exprS ts f (.bin (lv + 1)) s.adv).2) := by
  conv => lhs; unfold exprS
  rw [if_neg (by rw [h]; decide), if_pos h3]
theorem xs_lp (h : (opAt lv s.toks == 0) = false) (h3 : ¬ lv = 3) : exprS ts (f + 1) (.lp lv l) s = exprS ts f (.lp lv (mk2 (opAt lv s.toks) l (exprS ts f (.bin (lv + 1)) s.adv).1)) (exprS ts f (.bin (lv + 1)) s.adv).2 := by
  conv => lhs; unfold exprS
  rw [if_neg (by rw [h]; decide), if_neg h3]
theorem xs_neg (h : at' [45] s.toks = true) : exprS ts (f + 1) .un s = (mk1 4 (exprS ts f .un s.adv).1, (exprS ts f .un s.adv).2) := by
  conv => lhs; unfold exprS
  rw [if_pos h]
theorem xs_not (h1 : at' [45] s.toks = false) (h : at' [33] s.toks = true) : exprS ts (f + 1) .un s = (mk1 5 (exprS ts f .un s.adv).1, (exprS ts f .un s.adv).2) := by
  conv => lhs; unfold exprS
  rw [if_neg (by rw [h1]; decide), if_pos h]
theorem xs_pri (h1 : at' [45] s.toks = false) (h : at' [33] s.toks = false) : exprS ts (f + 1) .un s = exprS ts f .pr s := by
  conv => lhs; unfold exprS
  rw [if_neg (by rw [h1]; decide), if_neg (by rw [h]; decide)]
theorem xs_num (h : isNum s.toks = true) : exprS ts (f + 1) .pr s = (⟨1, (val (nextT s.toks) : Nat), ⟨#[]⟩, .nil⟩, s.adv) := by
  conv => lhs; unfold exprS
  rw [if_pos h]
theorem xs_par (h0 : isNum s.toks = false) (h : at' [40] s.toks = true) : exprS ts (f + 1) .pr s = ((exprS ts f (.bin 1) s.adv).1, wantS ts [41] (exprS ts f (.bin 1) s.adv).2) := by
  conv => lhs; unfold exprS
  rw [if_neg (by rw [h0]; decide), if_pos h]
theorem xs_idx (h0 : isNum s.toks = false) (h1 : at' [40] s.toks = false) (h : at' [91] (nameS ts s).2.toks = true) : exprS ts (f + 1) .pr s = (ixE (nameS ts s).1 (exprS ts f (.bin 1) (nameS ts s).2.adv).1, wantS ts [93] (exprS ts f (.bin 1) (nameS ts s).2.adv).2) := by
  conv => lhs; unfold exprS
  rw [if_neg (by rw [h0]; decide), if_neg (by rw [h1]; decide), if_pos h]
theorem xs_nam (h0 : isNum s.toks = false) (h1 : at' [40] s.toks = false) (h : at' [91] (nameS ts s).2.toks = false) : exprS ts (f + 1) .pr s = (⟨2, 0, (nameS ts s).1, .nil⟩, (nameS ts s).2) := by
  conv => lhs; unfold exprS
  rw [if_neg (by rw [h0]; decide), if_neg (by rw [h1]; decide), if_neg (by rw [h]; decide)]
end
end Go.Proofs.YtommnhglgedflaaGreatDoor.Pz
end
section
set_option linter.unusedVariables false
namespace Go.Proofs.YtommnhglgedflaaGreatDoor.Pz
open Go.RowKit Md Tk
def St.len (s : St) : Nat := s.toks.length
section
variable {ts : Toks}
theorem adv_le (s : St) : s.adv.len ≤ s.len := by
  cases s with
  | go r => show r.tail.length ≤ r.length; rw [List.length_tail]; omega
  | bad n => exact Nat.le_refl _
theorem adv_lt {s : St} (h : s.toks ≠ []) : s.adv.len < s.len := by
  cases s with
  | go r =>
    have h : r ≠ [] := h
    have := List.length_pos_iff.2 h
    show r.tail.length < r.length; rw [List.length_tail]; omega
  | bad n => exact absurd rfl h
theorem at_lt {x : List UInt8} {s : St} (h : at' x s.toks = true) : s.adv.len < s.len := adv_lt (by
  obtain ⟨t, r, e⟩ := at_pos h
  rw [e]; exact List.cons_ne_nil _ _)
theorem fail_le (s : St) : (fail ts s).len ≤ s.len := by cases s <;> exact Nat.zero_le _
theorem wantS_le (x : List UInt8) (s : St) : (wantS ts x s).len ≤ s.len := by
  unfold wantS; split
  · exact adv_le s
  · exact fail_le s
theorem nameS_le (s : St) : (nameS ts s).2.len ≤ s.len := by
  unfold nameS; split
  · exact adv_le s
  · exact fail_le s
theorem numS_le (s : St) : (numS ts s).2.len ≤ s.len := by
  unfold numS; split
  · exact adv_le s
  · exact fail_le s
theorem exprS_le : ∀ (f : Nat) (m : M) (s : St), (exprS ts f m s).2.len ≤ s.len
  | 0, m, s => by cases m <;> exact fail_le s
  | f + 1, .bin lv, s => by
    unfold exprS
    split
    · exact exprS_le f .un s
    · exact Nat.le_trans (exprS_le f (.lp lv (exprS ts f (.bin (lv + 1)) s).1) (exprS ts f (.bin (lv + 1)) s).2) (exprS_le f (.bin (lv + 1)) s)
  | f + 1, .lp lv l, s => by
    unfold exprS
    split
    · exact Nat.le_refl _
    · have h1 := Nat.le_trans (exprS_le f (.bin (lv + 1)) s.adv) (adv_le s)
      split
      · exact h1
      · exact Nat.le_trans (exprS_le f _ _) h1
  | f + 1, .un, s => by
    unfold exprS
    split
    · exact Nat.le_trans (exprS_le f .un s.adv) (adv_le s)
    · split
      · exact Nat.le_trans (exprS_le f .un s.adv) (adv_le s)
      · exact exprS_le f .pr s
  | f + 1, .pr, s => by
    unfold exprS
    split
    · exact adv_le s
    · split
      · exact Nat.le_trans (wantS_le _ _) (Nat.le_trans (exprS_le f (.bin 1) s.adv) (adv_le s))
      · split
        · exact Nat.le_trans (wantS_le _ _) (Nat.le_trans (exprS_le f (.bin 1) _) (Nat.le_trans (adv_le _) (nameS_le s)))
        · exact nameS_le s
theorem exprT_le (s : St) : (exprT ts s).2.len ≤ s.len := exprS_le _ _ s
theorem at_two {x y : List UInt8} {r : Toks} (hxy : (x == y) = false) (h : at' x r = true) : at' y r = false := by
  unfold at' at h ⊢
  rw [Bool.and_eq_true, beq_iff_eq] at h
  rw [h.2, hxy, Bool.and_false]
theorem num_at {r : Toks} (h : isNum r = true) (x : List UInt8) : at' x r = false := by
  have h : nextK r = 2 := by simpa [isNum] using h
  simp [at', h]
end
end Go.Proofs.YtommnhglgedflaaGreatDoor.Pz
end
section
set_option linter.unusedVariables false
set_option linter.unusedSimpArgs false
namespace Go.Proofs.YtommnhglgedflaaGreatDoor.Pz
open Go.RowKit Md Tk
/-- What was read is the same, or the same token does not fit. -/
def Agr {α : Type} (ts : Toks) : Res α → α × St → Prop
  | .ok x r, q => q = (x, .go r)
  | .no r, q => q.2 = .bad (lineAt ts r)
section
variable {ts : Toks}
theorem at_nil (x : List UInt8) : at' x [] = false := by simp [at', nextK]
theorem wantS_bad (x : List UInt8) (n : Int) : wantS ts x (.bad n) = .bad n := by unfold wantS; rw [show (St.bad n).toks = [] from rfl, at_nil]; rfl
theorem nameS_bad (n : Int) : (nameS ts (.bad n)) = (⟨#[]⟩, .bad n) := rfl
theorem numS_bad (n : Int) : (numS ts (.bad n)) = (0, .bad n) := rfl
theorem op_nil (lv : Int) : opAt lv [] = 0 := by simp [opAt, nextK]
theorem exprS_bad : ∀ (f : Nat) (m : M) (n : Int), (exprS ts f m (.bad n)).2 = .bad n
  | 0, m, n => by cases m <;> rfl
  | f + 1, .bin lv, n => by
    unfold exprS
    split
    · exact exprS_bad f _ n
    · rw [exprS_bad f _ n]; exact exprS_bad f _ n
  | f + 1, .lp lv l, n => by
    unfold exprS; rw [show (St.bad n).toks = [] from rfl, op_nil]; rfl
  | f + 1, .un, n => by
    unfold exprS; rw [show (St.bad n).toks = [] from rfl, at_nil, at_nil]; exact exprS_bad f _ n
  | f + 1, .pr, n => by
    unfold exprS; rw [nameS_bad, show (St.bad n).toks = [] from rfl, at_nil, at_nil]; rfl
theorem Agr.of {α : Type} {r : Res α} {q : α × St} (h : Agr ts r q) : (∃ x r', r = .ok x r' ∧ q = (x, .go r')) ∨ (∃ r', r = .no r' ∧ q.2 = .bad (lineAt ts r')) := by
  cases r with
  | ok x r' => exact .inl ⟨x, r', rfl, h⟩
  | no r' => exact .inr ⟨r', rfl, h⟩
theorem Agr.map {α β : Type} {r : Res α} {q : α × St} (h : Agr ts r q) (f : α → β) : Agr ts (r.map f) (f q.1, q.2) := by
  cases r with
  | ok x r' => have h : q = _ := h; subst h; rfl
  | no r' => exact h
theorem Agr.close {α : Type} {r : Res α} {q : α × St} (h : Agr ts r q) (y : List UInt8) : Agr ts (r.close y) (q.1, wantS ts y q.2) := by
  cases r with
  | ok x r' =>
    have h : q = _ := h
    subst h
    show Agr ts (if at' y r' then _ else _) _
    unfold wantS
    rw [show (St.go r').toks = r' from rfl]
    by_cases hc : at' y r' = true
    · rw [if_pos hc, if_pos hc]; rfl
    · rw [if_neg hc, if_neg hc]; rfl
  | no r' =>
    have h : q.2 = _ := h
    show wantS ts y q.2 = _
    rw [h, wantS_bad]
theorem Agr.bind {α β : Type} {r : Res α} {q : α × St} {f : α → Toks → Res β} {g : α → St → β × St} (h : Agr ts r q) (hf : ∀ x r', r = .ok x r' → Agr ts (f x r') (g x (.go r'))) (hg : ∀ x n, (g x (.bad n)).2 = .bad n) : Agr ts (r.bind f) (g q.1 q.2) := by
  cases r with
  | ok x r' => have h : q = _ := h; subst h; exact hf x r' rfl
  | no r' =>
    have h : q.2 = _ := h
    show (g q.1 q.2).2 = _
    rw [h, hg]
theorem agr_name (r : Toks) : Agr ts (nameR r) (nameS ts (.go r)) := by
  unfold nameR nameS
  rw [show (St.go r).toks = r from rfl]
  by_cases hc : isName r = true
  · rw [if_pos hc, if_pos hc]; rfl
  · rw [if_neg hc, if_neg hc]; rfl
theorem need_agr (x : List UInt8) (r : Toks) : Agr ts (need x r) ((), wantS ts x (.go r)) := by
  unfold need wantS
  rw [show (St.go r).toks = r from rfl]
  by_cases hc : at' x r = true
  · rw [if_pos hc, if_pos hc]; rfl
  · rw [if_neg hc, if_neg hc]; rfl
theorem num_or {r : Toks} (h : isNum r = true) (x : List UInt8) : at' x r = false := by
  have h : nextK r = 2 := by simpa [isNum] using h
  simp [at', h]
theorem name_or {r : Toks} (h : isName r = true) (x : List UInt8) : at' x r = false := by
  have h : nextK r = 1 := by simpa [isName] using h
  simp [at', h]
theorem exprS_agr : ∀ (f : Nat) (m : M) (r : Toks), Agr ts (pe f m r) (exprS ts f m (.go r))
  | 0, m, r => by cases m <;> rfl
  | f + 1, .bin lv, r => by
    unfold pe exprS
    by_cases hl : 5 < lv
    · rw [if_pos hl, if_pos hl]; exact exprS_agr f .un r
    · rw [if_neg hl, if_neg hl]
      rcases (exprS_agr f (.bin (lv + 1)) r).of with ⟨x, r', h1, h2⟩ | ⟨r', h1, h2⟩
      · rw [h1, h2]; exact exprS_agr f _ r'
      · rw [h1, h2]; exact exprS_bad f _ _
  | f + 1, .lp lv l, r => by
    unfold pe exprS
    rw [show (St.go r).toks = r from rfl, show (St.go r).adv = .go r.tail from rfl]
    by_cases hl : (opAt lv r == 0) = true
    · rw [if_pos hl, if_pos hl]; rfl
    · rw [if_neg hl, if_neg hl]
      rcases (exprS_agr f (.bin (lv + 1)) r.tail).of with ⟨x, r', h1, h2⟩ | ⟨r', h1, h2⟩
      · rw [h1, h2]
        by_cases h3 : lv = 3
        · rw [if_pos h3]; dsimp only; rw [if_pos h3]; rfl
        · rw [if_neg h3]; dsimp only; rw [if_neg h3]; exact exprS_agr f _ r'
      · rw [h1]
        show (ite _ _ _ : E × St).2 = _
        by_cases h3 : lv = 3
        · rw [if_pos h3]; exact h2
        · rw [if_neg h3, h2]; exact exprS_bad f _ _
  | f + 1, .un, r => by
    unfold pe exprS
    rw [show (St.go r).toks = r from rfl, show (St.go r).adv = .go r.tail from rfl]
    by_cases h1 : at' [45] r = true
    · rw [if_pos h1, if_pos h1]; exact (exprS_agr f .un r.tail).map _
    · rw [if_neg h1, if_neg h1]
      by_cases h2 : at' [33] r = true
      · rw [if_pos h2, if_pos h2]; exact (exprS_agr f .un r.tail).map _
      · rw [if_neg h2, if_neg h2]; exact exprS_agr f .pr r
  | f + 1, .pr, r => by
    unfold pe exprS
    rw [show (St.go r).toks = r from rfl, show (St.go r).adv = .go r.tail from rfl]
    by_cases h1 : isNum r = true
    · rw [if_pos h1, if_pos h1]; rfl
    · rw [if_neg h1, if_neg h1]
      by_cases h2 : isName r = true
      · rw [if_pos h2, if_neg (c := at' [40] r = true) (by rw [name_or h2]; decide)]
        have hq : nameS ts (.go r) = (tx (nextT r), .go r.tail) := by
          unfold nameS; rw [show (St.go r).toks = r from rfl, if_pos h2]; rfl
        rw [hq, show (St.go r.tail).toks = r.tail from rfl, show (St.go r.tail).adv = .go r.tail.tail from rfl]
        by_cases h3 : at' [91] r.tail = true
        · rw [if_pos h3, if_pos h3]
          exact ((exprS_agr f (.bin 1) r.tail.tail).close [93]).map _
        · rw [if_neg h3, if_neg h3]; rfl
      · rw [if_neg h2]
        by_cases h3 : at' [40] r = true
        · rw [if_pos h3, if_pos h3]; exact (exprS_agr f (.bin 1) r.tail).close [41]
        · rw [if_neg h3, if_neg h3]
          have hq : nameS ts (.go r) = (⟨#[]⟩, .bad (lineAt ts r)) := by
            unfold nameS; rw [show (St.go r).toks = r from rfl, if_neg h2]; rfl
          rw [hq, show (St.bad (lineAt ts r)).toks = [] from rfl, at_nil]; rfl
theorem exprT_agr (r : Toks) : Agr ts (expr r) (exprT ts (.go r)) := exprS_agr _ _ r
theorem exprT_bad (n : Int) : (exprT ts (.bad n)).2 = .bad n := exprS_bad _ _ n
end
end Go.Proofs.YtommnhglgedflaaGreatDoor.Pz
end
section
set_option linter.unusedVariables false
set_option linter.unusedSimpArgs false
namespace Go.Proofs.YtommnhglgedflaaGreatDoor.Pz
open Go.RowKit Md Tk
section
variable {ts : Toks}
theorem asgI_agr (h : StH) (r : Toks) : Agr ts (if at' [91] r then ((expr r.tail).close [93]).map (fun x => { h with idx := .cons x.op x.n x.nm x.kids .nil }) else .ok h r) (asgI ts h (.go r)) := by
  unfold asgI
  rw [show (St.go r).toks = r from rfl, show (St.go r).adv = .go r.tail from rfl]
  by_cases hc : at' [91] r = true
  · rw [if_pos hc, if_pos hc]; exact ((exprT_agr r.tail).close [93]).map (fun x => { h with idx := .cons x.op x.n x.nm x.kids .nil })
  · rw [if_neg hc, if_neg hc]; rfl
theorem asgI_bad (h : StH) (n : Int) : asgI ts h (.bad n) = (h, .bad n) := by
  unfold asgI; rw [show (St.bad n).toks = [] from rfl, at_nil]; rfl
theorem asgE_bad (h : StH) (n : Int) : (asgE ts h (.bad n)).2 = .bad n := by
  unfold asgE; rw [wantS_bad, exprT_bad, wantS_bad]
theorem asg_agr (h : StH) (r : Toks) : Agr ts (asg h r) (asgE ts (asgI ts h (.go r)).1 (asgI ts h (.go r)).2) := by
  unfold asg
  refine Agr.bind (g := asgE ts) (asgI_agr h r) (fun x r' _ => ?_) (fun x n => asgE_bad x n)
  unfold asgE
  refine Agr.bind (q := ((), wantS ts [61] (.go r'))) (g := fun _ s => (one (StH.ex x (exprT ts s).1) .nil .nil, wantS ts [59] (exprT ts s).2)) (need_agr [61] r') (fun _ r2 _ => ?_) (fun _ n => ?_)
  · have h := Agr.close (Agr.map (exprT_agr (ts := ts) r2) (fun y => one (StH.ex x y) .nil .nil)) [59]
    dsimp only at h ⊢
    exact h
  · dsimp only; rw [exprT_bad, wantS_bad]
theorem psS_bad : ∀ (f : Nat) (n : Int), (psS ts f false (.bad n)).2 = .bad n
  | 0, n => rfl
  | f + 1, n => by
    unfold psS
    rw [show (St.bad n).good = false from rfl, Bool.false_and, if_neg (by decide), wantS_bad]
theorem elseS_bad (h : StH) (b : St → StL × St) (l : StL) (n : Int) : (elseS h b l (.bad n)).2 = .bad n := by
  unfold elseS; rw [show (St.bad n).toks = [] from rfl, at_nil]; rfl
theorem tailS_bad (op : Int) (h : StH) (b : St → StL × St) (n : Int) (hb : ∀ n, (b (.bad n)).2 = .bad n) : (tailS ts op h b (.bad n)).2 = .bad n := by
  unfold tailS
  split
  · exact hb n
  · split
    · dsimp only; rw [exprT_bad, wantS_bad]
    · split
      · dsimp only; rw [nameS_bad]; exact wantS_bad (ts := ts) [59] n
      · exact wantS_bad (ts := ts) [59] n
theorem name_go {r : Toks} (h : (nextK r == 1) = true) : nameS ts (.go r) = (tx (nextT r), .go r.tail) := by
  unfold nameS; rw [show (St.go r).toks = r from rfl, if_pos (show isName r = true from h)]; rfl
theorem name_no {r : Toks} (h : (nextK r == 1) = false) : nameS ts (.go r) = (⟨#[]⟩, .bad (lineAt ts r)) := by
  unfold nameS; rw [show (St.go r).toks = r from rfl, if_neg (by rw [show isName r = false from h]; decide)]; rfl
theorem asgS_no {h : StH} {r : Toks} (h1 : (nextK r == 1) = false) : (asgS ts h (.go r)).2 = .bad (lineAt ts r) := by
  unfold asgS; rw [name_no h1]; dsimp only; rw [asgI_bad]; exact asgE_bad _ _
theorem psS_agr : ∀ (f : Nat) (b : Bool) (r : Toks), Agr ts (ps f b r) (psS ts f b (.go r))
  | 0, b, r => by cases b <;> rfl
  | f + 1, false, r => by
    unfold ps psS
    rw [show (St.go r).toks = r from rfl, show (St.go r).good = true from rfl, Bool.true_and]
    by_cases hc : at' [125] r = true
    · rw [if_pos hc, if_neg (by rw [hc]; decide)]
      unfold wantS
      rw [show (St.go r).toks = r from rfl, if_pos hc]; rfl
    · have hc' : at' [125] r = false := by simpa using hc
      rw [if_neg hc, if_pos (by rw [hc']; rfl)]
      rcases (psS_agr f true r).of with ⟨x, r', h1, h2⟩ | ⟨r', h1, h2⟩
      · rw [h1, h2]; exact (psS_agr f false r').map _
      · rw [h1]
        show (psS ts f false (psS ts f true (.go r)).2).2 = _
        rw [h2, psS_bad]
  | f + 1, true, r => by
    have hb : ∀ r : Toks, Agr ts (if at' [123] r then ps f false r.tail else .no r) (psS ts f false (wantS ts [123] (.go r))) := fun r => by
      unfold wantS
      rw [show (St.go r).toks = r from rfl, show (St.go r).adv = .go r.tail from rfl]
      by_cases hc : at' [123] r = true
      · rw [if_pos hc, if_pos hc]; exact psS_agr f false r.tail
      · rw [if_neg hc, if_neg hc]; exact psS_bad f _
    have hn : ∀ n : Int, (psS ts f false (wantS ts [123] (.bad n))).2 = .bad n := fun n => by rw [wantS_bad, psS_bad]
    unfold ps psS
    rw [show (St.go r).toks = r from rfl, show (St.go r).adv = .go r.tail from rfl]
    dsimp only
    by_cases h1 : (nextK r == 1) = true
    · have hw : wordS r = 0 := by
        unfold wordS
        have : nextK r = 1 := by simpa using h1
        rw [this]; rfl
      rw [hw, if_pos h1, if_pos (by decide)]
      unfold asgS
      rw [name_go h1]
      exact asg_agr _ _
    · have h1' : (nextK r == 1) = false := by simpa using h1
      by_cases h3 : (nextK r == 3) = true
      · have hw : wordS r = stOf (nextT r) := by unfold wordS; rw [if_pos h3]
        rw [hw, if_neg h1, if_pos h3]
        by_cases h0 : (stOf (nextT r) == 0) = true
        · rw [if_pos h0, if_pos h0]
          exact asgS_no h1'
        · rw [if_neg h0, if_neg h0]
          by_cases h2 : (stOf (nextT r) == 2) = true
          · rw [if_pos h2, if_pos h2]
            have h2' : stOf (nextT r) = 2 := by simpa using h2
            rw [h2']
            refine Agr.bind (g := fun x s => elseS (StH.ex (hd 2 (nextL r)) x) (fun s => psS ts f false (wantS ts [123] s)) (psS ts f false (wantS ts [123] s)).1 (psS ts f false (wantS ts [123] s)).2) (exprT_agr r.tail) (fun x r' _ => ?_) (fun x n => by rw [hn]; exact elseS_bad _ _ _ _)
            refine Agr.bind (g := fun b s => elseS (StH.ex (hd 2 (nextL r)) x) (fun s => psS ts f false (wantS ts [123] s)) b s) (hb r') (fun b r2 _ => ?_) (fun b n => elseS_bad _ _ _ _)
            unfold elseS
            rw [show (St.go r2).toks = r2 from rfl, show (St.go r2).adv = .go r2.tail from rfl]
            by_cases he : at' [101, 108, 115, 101] r2 = true
            · rw [if_pos he, if_pos he]; exact (hb r2.tail).map (one (StH.ex (hd 2 (nextL r)) x) b)
            · rw [if_neg he, if_neg he]; rfl
          · rw [if_neg h2, if_neg h2]
            by_cases h4 : (stOf (nextT r) == 3) = true
            · rw [if_pos h4, if_pos h4]
              have h4' : stOf (nextT r) = 3 := by simpa using h4
              rw [h4']
              refine Agr.bind (g := fun x s => (one (StH.ex (hd 3 (nextL r)) x) (psS ts f false (wantS ts [123] s)).1 .nil, (psS ts f false (wantS ts [123] s)).2)) (exprT_agr r.tail) (fun x r' _ => ?_) (fun x n => hn n)
              exact (hb r').map (fun b => one (StH.ex (hd 3 (nextL r)) x) b .nil)
            · rw [if_neg h4, if_neg h4]
              by_cases h5 : (stOf (nextT r) == 7 || stOf (nextT r) == 8) = true
              · rw [if_pos h5, if_pos h5]
                exact (hb r.tail).map (fun b => one (hd (stOf (nextT r)) (nextL r)) b .nil)
              · rw [if_neg h5, if_neg h5]
                refine Agr.bind (g := fun nm s => tailS ts (stOf (nextT r)) { hd (stOf (nextT r)) (nextL r) with nm := nm } (fun s => psS ts f false (wantS ts [123] s)) s) (agr_name r.tail) (fun x r' _ => ?_) (fun x n => tailS_bad _ _ _ _ hn)
                generalize stOf (nextT r) = op
                unfold tailS
                by_cases e1 : (op == 4 || op == 5 || op == 6) = true
                · rw [if_pos e1, if_pos e1]; exact (hb r').map (fun b => one { hd op (nextL r) with nm := x } b .nil)
                · rw [if_neg e1, if_neg e1]
                  by_cases e2 : (op == 14) = true
                  · rw [if_pos e2, if_pos e2]; exact ((exprT_agr r').map (fun y => one (StH.ex { hd op (nextL r) with nm := x } y) .nil .nil)).close [59]
                  · rw [if_neg e2, if_neg e2]
                    by_cases e3 : (op == 15) = true
                    · rw [if_pos e3, if_pos e3]; exact ((agr_name r').map (fun a => one { hd op (nextL r) with nm := x, arg := a } .nil .nil)).close [59]
                    · rw [if_neg e3, if_neg e3]; exact (need_agr [59] r').map (fun _ => one { hd op (nextL r) with nm := x } .nil .nil)
      · have hw : wordS r = 0 := by unfold wordS; rw [if_neg h3]
        rw [hw, if_neg h1, if_neg h3, if_pos (by decide)]
        exact asgS_no h1'
theorem blk_agr (f : Nat) (r : Toks) : Agr ts (blk f r) (blkS ts f (.go r)) := by
  unfold blk blkS wantS
  rw [show (St.go r).toks = r from rfl, show (St.go r).adv = .go r.tail from rfl]
  by_cases hc : at' [123] r = true
  · rw [if_pos hc, if_pos hc]; exact psS_agr f false r.tail
  · rw [if_neg hc, if_neg hc]; exact psS_bad f _
theorem blkS_bad (f : Nat) (n : Int) : (blkS ts f (.bad n)).2 = .bad n := by unfold blkS; rw [wantS_bad, psS_bad]
end
end Go.Proofs.YtommnhglgedflaaGreatDoor.Pz
end
section
set_option linter.unusedVariables false
namespace Go.Proofs.YtommnhglgedflaaGreatDoor.Pz
open Go.RowKit Md Tk
/-- How much there is still to read. -/
def St.mu (s : St) : Nat := if s.good then s.len + 1 else 0
section
variable {ts : Toks}
theorem mu_le {s s' : St} (h : s'.len < s.len) (hg : s.good = true) : s'.mu < s.mu := by
  unfold St.mu
  rw [if_pos hg]
  split <;> omega
theorem mu_bad {s : St} (n : Int) (hg : s.good = true) : (St.bad n).mu < s.mu := by
  unfold St.mu
  rw [if_pos hg, if_neg (by simp [St.good])]; omega
theorem asgI_le (h : StH) (s : St) : (asgI ts h s).2.len ≤ s.len := by
  unfold asgI; split
  · exact Nat.le_trans (wantS_le _ _) (Nat.le_trans (exprT_le _) (adv_le s))
  · exact Nat.le_refl _
theorem asgE_le (h : StH) (s : St) : (asgE ts h s).2.len ≤ s.len := by
  unfold asgE; exact Nat.le_trans (wantS_le _ _) (Nat.le_trans (exprT_le _) (wantS_le _ s))
theorem asgS_le (h : StH) (s : St) : (asgS ts h s).2.len ≤ s.len := by
  unfold asgS; exact Nat.le_trans (asgE_le _ _) (Nat.le_trans (asgI_le _ _) (nameS_le s))
theorem tailS_le (op : Int) (h : StH) (b : St → StL × St) (hb : ∀ s, (b s).2.len ≤ s.len) (s : St) : (tailS ts op h b s).2.len ≤ s.len := by
  unfold tailS
  split
  · exact hb s
  · split
    · exact Nat.le_trans (wantS_le _ _) (exprT_le s)
    · split
      · exact Nat.le_trans (wantS_le _ _) (nameS_le s)
      · exact wantS_le _ s
theorem elseS_le (h : StH) (b : St → StL × St) (hb : ∀ s, (b s).2.len ≤ s.len) (l : StL) (s : St) : (elseS h b l s).2.len ≤ s.len := by
  unfold elseS; split
  · exact Nat.le_trans (hb _) (adv_le s)
  · exact Nat.le_refl _
theorem psS_le : ∀ (f : Nat) (b : Bool) (s : St), (psS ts f b s).2.len ≤ s.len
  | 0, b, s => by cases b <;> exact fail_le s
  | f + 1, false, s => by
    unfold psS
    split
    · exact Nat.le_trans (psS_le f false _) (psS_le f true s)
    · exact wantS_le _ s
  | f + 1, true, s => by
    have hb : ∀ s, (psS ts f false (wantS ts [123] s)).2.len ≤ s.len := fun s => Nat.le_trans (psS_le f false _) (wantS_le _ s)
    unfold psS
    split
    · exact asgS_le _ s
    · split
      · exact Nat.le_trans (elseS_le _ _ hb _ _) (Nat.le_trans (hb _) (Nat.le_trans (exprT_le _) (adv_le s)))
      · split
        · exact Nat.le_trans (hb _) (Nat.le_trans (exprT_le _) (adv_le s))
        · split
          · exact Nat.le_trans (hb _) (adv_le s)
          · exact Nat.le_trans (tailS_le _ _ _ hb _) (Nat.le_trans (nameS_le _) (adv_le s))
theorem bkS_le (f : Nat) (s : St) : (bkS ts f s).2.len ≤ s.len := Nat.le_trans (psS_le f false _) (wantS_le _ s)
theorem word_ne {s : St} (h : (wordS s.toks == 0) = false) : s.toks ≠ [] := by
  intro e; rw [e] at h; exact absurd h (by decide)
theorem stX_lt {f : Nat} {s : St} (h : (wordS s.toks == 0) = false) : (psS ts (f + 1) true s).2.len < s.len := by
  have ha := adv_lt (word_ne h)
  have hb : ∀ s, (psS ts f false (wantS ts [123] s)).2.len ≤ s.len := fun s => Nat.le_trans (psS_le f false _) (wantS_le _ s)
  refine Nat.lt_of_le_of_lt ?_ ha
  unfold psS
  rw [if_neg (by rw [h]; decide)]
  split
  · exact Nat.le_trans (elseS_le _ _ hb _ _) (Nat.le_trans (hb _) (exprT_le _))
  · split
    · exact Nat.le_trans (hb _) (exprT_le _)
    · split
      · exact hb _
      · exact Nat.le_trans (tailS_le _ _ _ hb _) (nameS_le _)
theorem st_mu (f : Nat) {s : St} (hg : s.good = true) : (psS ts (f + 1) true s).2.mu < s.mu := by
  cases h : (wordS s.toks == 0)
  · exact mu_le (stX_lt h) hg
  · have e : psS ts (f + 1) true s = asgS ts (hd 0 (nextL s.toks)) s := by
      conv => lhs; unfold psS
      rw [if_pos h]
    rw [e]
    cases hn : isName s.toks
    · have : (asgS ts (hd 0 (nextL s.toks)) s).2 = .bad (lineAt ts s.toks) := by
        cases s with
        | bad n => cases hg
        | go r => exact asgS_no hn
      rw [this]; exact mu_bad _ hg
    · refine mu_le ?_ hg
      unfold asgS
      refine Nat.lt_of_le_of_lt (Nat.le_trans (asgE_le _ _) (asgI_le _ _)) ?_
      have : nameS ts s = (tx (nextT s.toks), s.adv) := by unfold nameS; rw [if_pos hn]
      rw [this]
      exact adv_lt (by intro e; rw [e] at hn; exact absurd hn (by decide))
/-- The fuel that statements want. -/
def enoughP (b : Bool) (s : St) (f : Nat) : Prop := 3 * s.len + (if b then 1 else 2) < f
theorem bk_enough (s : St) : enoughP false (wantS ts [123] s) (3 * s.toks.length + 3) := by
  unfold enoughP
  have := wantS_le (ts := ts) [123] s
  unfold St.len at this ⊢
  simp; omega
theorem ps_bad (f : Nat) (b : Nat) (n : Int) : psS ts f false (.bad n) = (.nil, .bad n) := by
  cases f with
  | zero => rfl
  | succ f => rw [ps_end ts f (.bad n) rfl, wantS_bad]
end
end Go.Proofs.YtommnhglgedflaaGreatDoor.Pz
end
section
set_option linter.unusedVariables false
set_option linter.unusedSimpArgs false
namespace Go.Proofs.YtommnhglgedflaaGreatDoor.Pz
open Go.RowKit Md Tk
section
variable {ts : Toks}
def szR (d : De) (r : Toks) : Res De := if d.kind == 1 then sizeR d r else .ok d r
def inR (d : De) (r : Toks) : Res De := if d.kind == 1 || d.kind == 2 then initR d r else .ok d r
def onR (d : De) (r : Toks) : Res De := if d.kind == 5 then (nameR r).map fun o => { d with on := o } else .ok d r
theorem wantS_go {x : List UInt8} {r : Toks} (h : at' x r = true) : wantS ts x (.go r) = .go r.tail := by
  unfold wantS; rw [show (St.go r).toks = r from rfl, if_pos h]; rfl
theorem wantS_no {x : List UInt8} {r : Toks} (h : at' x r = false) : wantS ts x (.go r) = .bad (lineAt ts r) := by
  unfold wantS; rw [show (St.go r).toks = r from rfl, if_neg (by rw [h]; decide)]; rfl
theorem numS_go {r : Toks} (h : isNum r = true) : numS ts (.go r) = (((val (nextT r) : Nat) : Int), St.go r.tail) := by
  unfold numS; rw [show (St.go r).toks = r from rfl, if_pos h]; rfl
theorem numS_no {r : Toks} (h : isNum r = false) : numS ts (.go r) = (0, .bad (lineAt ts r)) := by
  unfold numS; rw [show (St.go r).toks = r from rfl, if_neg (by rw [h]; decide)]; rfl
theorem sizeS_agr (d : De) (r : Toks) : Agr ts (szR d r) (sizeS ts d (.go r)) := by
  unfold szR sizeS sizeR
  rw [show (St.go r).toks = r from rfl, show (St.go r).adv = .go r.tail from rfl, show (St.go r.tail).toks = r.tail from rfl]
  cases h1 : (d.kind == 1)
  · rw [if_neg (by decide), Bool.false_and, if_neg (by decide)]; rfl
  · rw [if_pos (by decide), Bool.true_and]
    by_cases h2 : at' [91] r = true
    · rw [if_pos h2, if_pos h2]
      by_cases h3 : isNum r.tail = true
      · rw [if_pos h3, if_pos h3]
        by_cases h4 : (val (nextT r.tail) == 0) = true
        · rw [if_pos h4, if_pos h4]
          exact wantS_bad (ts := ts) [93] _
        · rw [if_neg h4, if_neg h4, numS_go h3]
          exact (need_agr [93] r.tail.tail).map (fun _ => { d with size := (val (nextT r.tail) : Nat) })
      · rw [if_neg h3, if_neg h3, numS_no (by simpa using h3)]
        exact wantS_bad (ts := ts) [93] _
    · rw [if_neg h2, if_neg h2]; rfl
theorem sizeS_bad (d : De) (n : Int) : (sizeS ts d (.bad n)).2 = .bad n := by
  unfold sizeS; rw [show (St.bad n).toks = [] from rfl, at_nil, Bool.and_false]; rfl
theorem initS_agr (d : De) (r : Toks) : Agr ts (inR d r) (initS ts d (.go r)) := by
  unfold inR initS initR
  rw [show (St.go r).toks = r from rfl, show (St.go r).adv = .go r.tail from rfl, show (St.go r.tail).toks = r.tail from rfl, show (St.go r.tail).adv = .go r.tail.tail from rfl]
  cases h1 : (d.kind == 1 || d.kind == 2)
  · rw [if_neg (by decide), Bool.false_and, if_neg (by decide)]; rfl
  · rw [if_pos (by decide), Bool.true_and]
    by_cases h2 : at' [61] r = true
    · rw [if_pos h2, if_pos h2]
      by_cases h5 : at' [45] r.tail = true
      · rw [if_pos h5, if_pos h5]
        cases h3 : isNum r.tail.tail
        · rw [if_neg (by decide), numS_no h3]; rfl
        · rw [if_pos (by decide), numS_go h3]; rfl
      · rw [if_neg h5, if_neg h5]
        cases h3 : isNum r.tail
        · rw [if_neg (by decide), numS_no h3]; rfl
        · rw [if_pos (by decide), numS_go h3]; rfl
    · rw [if_neg h2, if_neg h2]; rfl
theorem initS_bad (d : De) (n : Int) : (initS ts d (.bad n)).2 = .bad n := by
  unfold initS; rw [show (St.bad n).toks = [] from rfl, at_nil, Bool.and_false]; rfl
theorem onS_agr (d : De) (r : Toks) : Agr ts (onR d r) (onS ts d (.go r)) := by
  unfold onR onS
  cases h1 : (d.kind == 5)
  · rw [if_neg (by decide), if_neg (by decide)]; rfl
  · rw [if_pos (by decide), if_pos (by decide)]; exact (agr_name r).map _
theorem onS_bad (d : De) (n : Int) : (onS ts d (.bad n)).2 = .bad n := by unfold onS; split <;> rfl
theorem bind_id {α : Type} {x : Res α} {f : α → Toks → Res α} (h : ∀ a r, x = .ok a r → f a r = .ok a r) : x.bind f = x := by
  cases x with
  | ok a r => exact h a r rfl
  | no r => rfl
theorem bind_congr {α β : Type} {x : Res α} {f g : α → Toks → Res β} (h : ∀ a r, x = .ok a r → f a r = g a r) : x.bind f = x.bind g := by
  cases x with
  | ok a r => exact h a r rfl
  | no r => rfl
theorem map_map {α β γ : Type} (x : Res α) (f : α → β) (g : β → γ) : (x.map f).map g = x.map (fun a => g (f a)) := by cases x <;> rfl
theorem map_eq {α β : Type} {x : Res α} {f g : α → β} (h : ∀ a, f a = g a) : x.map f = x.map g := by
  cases x with
  | ok a r => show Res.ok (f a) r = _; rw [h]; rfl
  | no r => rfl
theorem declR_eq (r : Toks) : declR r = ((nameR r.tail).bind fun s r' => ((szR ⟨dcOf (nextT r), nextL r, s, 0, 0, ⟨#[]⟩⟩ r').bind inR).bind onR).close [59] := by
  unfold declR
  dsimp only
  congr 1
  refine bind_congr (fun s r' _ => ?_)
  generalize hd : (⟨dcOf (nextT r), nextL r, s, 0, 0, ⟨#[]⟩⟩ : De) = d
  have hk : dcOf (nextT r) = d.kind := by rw [← hd]
  rw [hk]
  have hd' : (⟨d.kind, nextL r, s, 0, 0, ⟨#[]⟩⟩ : De) = d := by rw [← hd]
  have hon : ∀ o, (⟨d.kind, nextL r, s, 0, 0, o⟩ : De) = { d with on := o } := fun o => by rw [← hd]
  unfold szR
  by_cases h1 : (d.kind == 1) = true
  · rw [if_pos h1, if_pos h1]
    have h1' : d.kind = 1 := by simpa using h1
    have e1 : (sizeR d r').bind inR = (sizeR d r').bind initR := bind_congr (fun d' r2 e => by unfold inR; rw [(sizeR_len e).2, h1']; rfl)
    rw [e1]
    refine (bind_id (fun d' r2 e => ?_)).symm
    obtain ⟨d1, r1, e1, e2⟩ := bind_lt e
    unfold onR; rw [(initR_len e2).2, (sizeR_len e1).2, h1']; rfl
  · rw [if_neg h1, if_neg h1]
    show _ = (inR d r').bind onR
    unfold inR
    by_cases h2 : (d.kind == 2) = true
    · rw [if_pos h2, if_pos (by rw [h2, Bool.or_true])]
      refine (bind_id (fun d' r2 e => ?_)).symm
      have h2' : d.kind = 2 := by simpa using h2
      unfold onR; rw [(initR_len e).2, h2']; rfl
    · rw [if_neg (c := (d.kind == 2) = true) h2, if_neg (c := (d.kind == 1 || d.kind == 2) = true) (by simpa [h1] using h2)]
      show _ = onR d r'
      unfold onR
      by_cases h5 : (d.kind == 5) = true
      · rw [if_pos h5, if_pos h5]; exact map_eq hon
      · rw [if_neg h5, if_neg h5]
theorem declS_agr {r : Toks} (h : isDecl r = true) : Agr ts (declR r) (declS ts (.go r)) := by
  have hk : dcS r = dcOf (nextT r) := by
    unfold isDecl at h
    rw [Bool.and_eq_true] at h
    unfold dcS; rw [h.1]; rfl
  rw [declR_eq]
  unfold declS
  rw [show (St.go r).toks = r from rfl, show (St.go r).adv = .go r.tail from rfl, hk]
  refine Agr.close (q := (thenS (thenS (sizeS ts ⟨dcOf (nextT r), nextL r, (nameS ts (.go r.tail)).1, 0, 0, ⟨#[]⟩⟩ (nameS ts (.go r.tail)).2) (initS ts)) (onS ts))) ?_ [59]
  refine Agr.bind (g := fun s q => thenS (thenS (sizeS ts ⟨dcOf (nextT r), nextL r, s, 0, 0, ⟨#[]⟩⟩ q) (initS ts)) (onS ts)) (agr_name r.tail) (fun s r' _ => ?_) (fun s n => ?_)
  · refine Agr.bind (g := onS ts) ?_ (fun d r2 _ => onS_agr d r2) (fun d n => onS_bad d n)
    exact Agr.bind (g := initS ts) (sizeS_agr _ r') (fun d r2 _ => initS_agr d r2) (fun d n => initS_bad d n)
  · unfold thenS; rw [sizeS_bad, initS_bad, onS_bad]
theorem locsS_bad : ∀ (f : Nat) (l : List ByteArray) (n : Int), (locsS ts f l (.bad n)).2 = .bad n
  | 0, l, n => rfl
  | f + 1, l, n => by unfold locsS; rw [show (St.bad n).toks = [] from rfl, at_nil]; rfl
theorem locs_agr : ∀ (f g : Nat) (l : List ByteArray) (r : Toks), r.length < f → (nameS ts (.go r)).2.toks.length ≤ g → Agr ts ((locsR f r).map (l ++ ·)) (locsS ts g (l ++ [(nameS ts (.go r)).1]) (nameS ts (.go r)).2)
  | 0, g, l, r, h, _ => by omega
  | f + 1, g, l, r, h, hg => by
    unfold locsR
    cases h1 : isName r
    · rw [name_no h1]
      have : nameR r = .no r := by unfold nameR; rw [h1]; rfl
      rw [this]
      exact locsS_bad _ _ _
    · rw [name_go h1] at hg ⊢
      have : nameR r = .ok (tx (nextT r)) r.tail := by unfold nameR; rw [h1]; rfl
      rw [this]
      show Agr ts ((if at' [44] r.tail then (locsR f r.tail.tail).map (tx (nextT r) :: ·) else .ok [tx (nextT r)] r.tail).map (l ++ ·)) (locsS ts g (l ++ [tx (nextT r)]) (.go r.tail))
      have hg : r.tail.length ≤ g := hg
      have hr := name_len h1
      by_cases h2 : at' [44] r.tail = true
      · have h3 := at_len h2
        obtain ⟨g', rfl⟩ : ∃ g', g = g' + 1 := ⟨g - 1, by omega⟩
        rw [if_pos h2, map_map]
        unfold locsS
        rw [show (St.go r.tail).toks = r.tail from rfl, if_pos h2, show (St.go r.tail).adv = .go r.tail.tail from rfl]
        have ih := locs_agr f g' (l ++ [tx (nextT r)]) r.tail.tail (by omega) (by
          unfold nameS
          rw [show (St.go r.tail.tail).toks = r.tail.tail from rfl]
          split
          · have := tail_le r.tail.tail
            show r.tail.tail.tail.length ≤ g'
            omega
          · exact Nat.zero_le _)
        rw [map_eq (g := fun a => l ++ [tx (nextT r)] ++ a) (fun a => by simp)]
        exact ih
      · rw [if_neg h2]
        have : locsS ts g (l ++ [tx (nextT r)]) (.go r.tail) = (l ++ [tx (nextT r)], .go r.tail) := by
          cases g with
          | zero => rfl
          | succ g => unfold locsS; rw [show (St.go r.tail).toks = r.tail from rfl, if_neg h2]
        rw [this]; rfl
theorem paramS_bad (n : Int) : (paramS ts (.bad n)).2 = .bad n := by
  unfold paramS; rw [show (St.bad n).toks = [] from rfl, at_nil, nameS_bad]; rfl
theorem param_agr (r : Toks) : Agr ts (if at' [41] r then .ok [] r.tail else (locsR (r.length + 1) r).close [41]) ((paramS ts (.go r)).1, wantS ts [41] (paramS ts (.go r)).2) := by
  unfold paramS
  rw [show (St.go r).toks = r from rfl]
  cases h : at' [41] r
  · rw [if_neg (by decide), if_neg (by decide)]
    have := locs_agr (ts := ts) (r.length + 1) (nameS ts (.go r)).2.toks.length [] r (by omega) (Nat.le_refl _)
    rw [map_eq (g := fun a => a) (fun a => by simp), show (locsR (r.length + 1) r).map (fun a => a) = locsR (r.length + 1) r by cases locsR (r.length + 1) r <;> rfl] at this
    exact this.close [41]
  · rw [if_pos (by decide), if_pos (by decide), wantS_go h]; rfl
def thrB (ts : Toks) (nm : ByteArray) (ln : Int) (l : List ByteArray) (s : St) : Th × St := (⟨nm, ln, l, (blkS ts (3 * s.toks.length + 3) s).1⟩, (blkS ts (3 * s.toks.length + 3) s).2)
def thrP (ts : Toks) (nm : ByteArray) (ln : Int) (s : St) : Th × St := thrB ts nm ln (paramS ts s).1 (wantS ts [41] (paramS ts s).2)
def thrN (ts : Toks) (ln : Int) (nm : ByteArray) (s : St) : Th × St := thrP ts nm ln (wantS ts [40] s)
theorem thrB_bad (nm : ByteArray) (ln : Int) (l : List ByteArray) (n : Int) : (thrB ts nm ln l (.bad n)).2 = .bad n := blkS_bad _ _
theorem thrP_bad (nm : ByteArray) (ln : Int) (n : Int) : (thrP ts nm ln (.bad n)).2 = .bad n := by unfold thrP; rw [paramS_bad, wantS_bad, thrB_bad]
theorem thrN_bad (nm : ByteArray) (ln : Int) (n : Int) : (thrN ts ln nm (.bad n)).2 = .bad n := by unfold thrN; rw [wantS_bad, thrP_bad]
theorem thrS_thrN (s : St) : thrS ts s = thrN ts (nextL s.toks) (nameS ts (wantS ts [116, 104, 114, 101, 97, 100] s)).1 (nameS ts (wantS ts [116, 104, 114, 101, 97, 100] s)).2 := rfl
theorem thrS_no {r : Toks} (h : at' [116, 104, 114, 101, 97, 100] r = false) : (thrS ts (.go r)).2 = .bad (lineAt ts r) := by
  rw [thrS_thrN, wantS_no h, nameS_bad, thrN_bad]
theorem thrS_agr {r : Toks} (h : at' [116, 104, 114, 101, 97, 100] r = true) : Agr ts (thrR r) (thrS ts (.go r)) := by
  unfold thrR
  rw [thrS_thrN, wantS_go h, show (St.go r).toks = r from rfl]
  refine Agr.bind (q := nameS ts (.go r.tail)) (g := thrN ts (nextL r)) (agr_name r.tail) (fun nm r1 _ => ?_) (fun nm n => thrN_bad nm _ n)
  refine Agr.bind (q := ((), wantS ts [40] (.go r1))) (g := fun _ s => thrP ts nm (nextL r) s) (need_agr [40] r1) (fun _ r2 _ => ?_) (fun _ n => thrP_bad nm _ n)
  refine Agr.bind (q := ((paramS ts (.go r2)).1, wantS ts [41] (paramS ts (.go r2)).2)) (g := fun l s => thrB ts nm (nextL r) l s) (param_agr r2) (fun l r3 _ => ?_) (fun l n => thrB_bad nm _ l n)
  exact (blk_agr _ r3).map (fun b => (⟨nm, nextL r, l, b⟩ : Th))
theorem declsS_bad : ∀ (f : Nat) (l : List De) (n : Int), (declsS ts f l (.bad n)).2 = .bad n
  | 0, l, n => rfl
  | f + 1, l, n => rfl
theorem decls_agr : ∀ (f : Nat) (l : List De) (r : Toks), Agr ts ((declsR f r).map (l ++ ·)) (declsS ts f l (.go r))
  | 0, l, r => by show (l, St.go r) = (l ++ [], .go r); rw [List.append_nil]
  | f + 1, l, r => by
    unfold declsR declsS
    rw [show (St.go r).toks = r from rfl]
    cases h : isDecl r
    · rw [if_neg (by decide), if_neg (by decide)]
      show (l, St.go r) = (l ++ [], .go r); rw [List.append_nil]
    · rw [if_pos (by decide), if_pos (by decide)]
      rcases (declS_agr (ts := ts) h).of with ⟨x, r', h1, h2⟩ | ⟨r', h1, h2⟩
      · rw [h1, h2]
        show Agr ts (((declsR f r').map (x :: ·)).map (l ++ ·)) _
        rw [map_map, map_eq (g := fun a => l ++ [x] ++ a) (fun a => by simp)]
        exact decls_agr f (l ++ [x]) r'
      · rw [h1]
        show (declsS ts f _ (declS ts (.go r)).2).2 = _
        rw [h2]; exact declsS_bad _ _ _
theorem thrsS_bad : ∀ (f : Nat) (l : List Th) (n : Int), (thrsS ts f l (.bad n)).2 = .bad n
  | 0, l, n => rfl
  | f + 1, l, n => rfl
/-- What the threads' loop says. -/
def ThAgr (ts : Toks) (l : List Th) (q : List Th × St) : Res (List Th) → Prop
  | .ok th rest => if ((l ++ th).isEmpty || !rest.isEmpty) = true then q.2 = .bad (lineAt ts rest) else q = (l ++ th, .go rest)
  | .no rest => q.2 = .bad (lineAt ts rest)
theorem thrs_stop {g : Nat} {l : List Th} {r : Toks} (hg : 0 < g) (h : at' [116, 104, 114, 101, 97, 100] r = false) : ThAgr ts l (thrsS ts g l (.go r)) (.ok [] r) := by
  obtain ⟨g', rfl⟩ : ∃ g', g = g' + 1 := ⟨g - 1, by omega⟩
  show ite _ _ _
  rw [List.append_nil]
  unfold thrsS
  rw [show (St.go r).toks = r from rfl, show (St.go r).good = true from rfl, Bool.true_and]
  by_cases hc : (l.isEmpty || !r.isEmpty) = true
  · rw [if_pos hc, if_pos hc, thrS_no h]; exact thrsS_bad _ _ _
  · rw [if_neg hc, if_neg hc]
theorem thrs_agr : ∀ (f g : Nat) (l : List Th) (r : Toks), r.length ≤ f → r.length < g → ThAgr ts l (thrsS ts g l (.go r)) (thrsR f r)
  | 0, g, l, r, hf, hg => by
    have : r = [] := List.length_eq_zero_iff.1 (by omega)
    subst this
    exact thrs_stop (by omega) (at_nil _)
  | f + 1, g, l, r, hf, hg => by
    unfold thrsR
    cases h : at' [116, 104, 114, 101, 97, 100] r
    · rw [if_neg (by decide)]; exact thrs_stop (by omega) h
    · rw [if_pos (by decide)]
      obtain ⟨g', rfl⟩ : ∃ g', g = g' + 1 := ⟨g - 1, by omega⟩
      have hne : r.isEmpty = false := by
        obtain ⟨t, r', rfl⟩ := at_pos h; rfl
      have hs : thrsS ts (g' + 1) l (.go r) = thrsS ts g' (l ++ [(thrS ts (.go r)).1]) (thrS ts (.go r)).2 := by
        conv => lhs; unfold thrsS
        rw [show (St.go r).toks = r from rfl, show (St.go r).good = true from rfl, Bool.true_and, hne, Bool.not_false, Bool.or_true, if_pos rfl]
      rw [hs]
      rcases (thrS_agr (ts := ts) h).of with ⟨x, r', h1, h2⟩ | ⟨r', h1, h2⟩
      · have hl := thrR_len h1
        rw [h1, h2]
        have ih := thrs_agr f g' (l ++ [x]) r' (by omega) (by omega)
        show ThAgr ts l _ ((thrsR f r').map (x :: ·))
        cases ht : thrsR f r' with
        | ok th rest =>
          rw [ht] at ih
          show ite _ _ _
          have e : l ++ x :: th = l ++ [x] ++ th := by simp
          rw [e]; exact ih
        | no rest => rw [ht] at ih; exact ih
      · rw [h1, h2]; exact thrsS_bad _ _ _
theorem outP_bad {p : Pr} {s : St} {n : Int} (h : s = .bad n) : outP p s = (⟨[], []⟩, 3, n) := by subst h; rfl
theorem outE_bad {x : E} {s : St} {n : Int} (h : s = .bad n) : outE x s = (⟨0, 0, ⟨#[]⟩, .nil⟩, 3, n) := by subst h; rfl
theorem parseS_eq (s : List UInt8) : parseS s = parse s := by
  unfold parseS parse
  split
  · generalize (scan s).1 = ts
    unfold progS prog
    have hd := decls_agr (ts := ts) ts.length [] ts
    rw [map_eq (g := fun a => a) (fun a => by simp), show (declsR ts.length ts).map (fun a => a) = declsR ts.length ts by cases declsR ts.length ts <;> rfl] at hd
    rcases hd.of with ⟨ds, r, h1, h2⟩ | ⟨r, h1, h2⟩
    · rw [h1, h2]
      have ht := thrs_agr (ts := ts) r.length (r.length + 1) [] r (Nat.le_refl _) (Nat.lt_succ_self _)
      show outP ⟨ds, (thrsS ts (r.length + 1) [] (.go r)).1⟩ (thrsS ts (r.length + 1) [] (.go r)).2 = match (thrsR r.length r).map (fun th => (⟨ds, th⟩ : Pr)) with
        | .ok p rest => if p.ts.isEmpty || !rest.isEmpty then (⟨[], []⟩, 3, lineAt ts rest) else (p, 0, 0)
        | .no rest => (⟨[], []⟩, 3, lineAt ts rest)
      cases hh : thrsR r.length r with
      | ok th rest =>
        rw [hh] at ht
        have ht : if (([] ++ th).isEmpty || !rest.isEmpty) = true then _ else _ := ht
        show _ = if th.isEmpty || !rest.isEmpty then _ else _
        by_cases hc : (th.isEmpty || !rest.isEmpty) = true
        · rw [if_pos (by simpa using hc)] at ht
          rw [if_pos hc, outP_bad ht]
        · rw [if_neg (by simpa using hc)] at ht
          rw [if_neg hc, ht]; rfl
      | no rest =>
        rw [hh] at ht
        exact outP_bad ht
    · rw [h1]
      exact outP_bad (by unfold progT; dsimp only; rw [h2]; exact thrsS_bad _ _ _)
  · rfl
theorem parseES_eq (s : List UInt8) : parseES s = parseE s := by
  unfold parseES parseE
  split
  · generalize (scan s).1 = ts
    rcases (exprT_agr (ts := ts) ts).of with ⟨x, r, h1, h2⟩ | ⟨r, h1, h2⟩
    · rw [h1, h2]
      show outE x (endS ts (.go r)) = if !r.isEmpty then _ else _
      unfold endS
      rw [show (St.go r).toks = r from rfl, show (St.go r).good = true from rfl, Bool.true_and]
      by_cases hc : (!r.isEmpty) = true
      · rw [if_pos hc, if_pos hc]; rfl
      · rw [if_neg hc, if_neg hc]; rfl
    · rw [h1, h2]; rfl
  · rfl
end
end Go.Proofs.YtommnhglgedflaaGreatDoor.Pz
end
