/-
  The checker's state as data, and the contract of its statement at every operator.
  Contract of the checker's statement at every operator, over the checker's state.
  What the checker answers to a list of statements: plain, and its parts that the walk needs.
  A statement put on the checker's row of those that are around, and taken off. No walk in sight.
-/
import Derived.Test.YtommnhglgedflaaGreatDoorGMG
import Derived.Test.YtommnhglgedflaaGreatDoorGMH
import Derived.Test.YtommnhglgedflaaGreatDoorGMI
import Derived.Test.YtommnhglgedflaaGreatDoorGMB
section
namespace Go.Proofs.YtommnhglgedflaaGreatDoor
open Go.RowKit
namespace Md
/-- A statement that is around, with its slices. -/
structure Fr where
  h : StH
  b : StL
  e : StL
  s : Sl
def frL : List Fr → StL
  | [] => .nil
  | x :: r => .cons x.h x.b x.e (frL r)
def stC (h : StH) (b e : StL) (s : Sl) : List Value := [.int .i64 h.op, .int .i64 h.line, .string h.nm, .string h.arg, .slice s.aoi h.idx.len s.capi, .int .i64 h.xop, .int .i64 h.xn, .string h.xnm, .slice s.aox h.xkids.len s.capx, .slice s.aob b.len s.capb, .slice s.aoe e.len s.cape]
def frC : List Fr → List Value
  | [] => []
  | x :: r => stC x.h x.b x.e x.s ++ frC r
theorem frC_len : ∀ A : List Fr, (frC A).length = A.length * 11
  | [] => rfl
  | x :: r => by simp only [frC, List.length_append, frC_len r, List.length_cons]; simp [stC]; omega
theorem frC_snoc : ∀ (A : List Fr) (x : Fr), frC (A ++ [x]) = frC A ++ stC x.h x.b x.e x.s
  | [], x => by simp [frC]
  | y :: r, x => by simp [frC, frC_snoc r x]
theorem frL_len : ∀ A : List Fr, (frL A).len = A.length
  | [] => rfl
  | x :: r => by simp [frL, StL.len, frL_len r]
/-- What hangs on a statement lies below a block. -/
def StInB (w : World) (B : Nat) (h : StH) (b e : StL) (s : Sl) : Prop := StOk h b e ∧ h.idx.At w B s.aoi 0 ∧ h.xkids.At w B s.aox 0 ∧ b.At w B s.aob 0 ∧ e.At w B s.aoe 0
theorem StInB.below {w w' : World} {B : Nat} {h : StH} {b e : StL} {s : Sl} (hi : StInB w B h b e s) (hb : Below B w w') : StInB w' B h b e s :=
  ⟨hi.1, hi.2.1.below hb, hi.2.2.1.below hb, hi.2.2.2.1.below hb, hi.2.2.2.2.below hb⟩
theorem StInB.use {w : World} {B : Nat} {h : StH} {b e : StL} {s : Sl} (hi : StInB w B h b e s) (hb : B ≤ w.heap.size) : StIn w h b e s :=
  ⟨hi.1, hi.2.1.mono hb, hi.2.2.1.mono hb, hi.2.2.2.1.mono hb, hi.2.2.2.2.mono hb⟩
def FrIn (w : World) (B : Nat) (A : List Fr) : Prop := ∀ x ∈ A, StInB w B x.h x.b x.e x.s
theorem frAt {w : World} {B B' g : Nat} (hB : B ≤ B') (hg : g < B') : ∀ (A : List Fr) (k : Nat), (∀ j u, (frC A)[j]? = some u → w.cell? ⟨g, k * 11 + j, none⟩ = some u) → FrIn w B A → (frL A).At w B' (some ⟨g, 0, none⟩) k
  | [], _, _, _ => trivial
  | x :: r, k, hc, hin => by
    have hx := hin x (by simp)
    have c : ∀ j u, (stC x.h x.b x.e x.s)[j]? = some u → w.cell? ⟨g, 0 + k * 11 + j, none⟩ = some u := fun j u hu => by
      rw [Nat.zero_add]
      refine hc j u ?_
      have : j < (stC x.h x.b x.e x.s).length := (List.getElem?_eq_some_iff.1 hu).1
      rw [frC, List.getElem?_append_left this]; exact hu
    refine ⟨⟨g, 0, x.s.aoi, x.s.capi, x.s.aox, x.s.capx, x.s.aob, x.s.capb, x.s.aoe, x.s.cape, rfl, hg, c 0 _ rfl, c 1 _ rfl, c 2 _ rfl, c 3 _ rfl, c 4 _ rfl, c 5 _ rfl, c 6 _ rfl, c 7 _ rfl, c 8 _ rfl, c 9 _ rfl, c 10 _ rfl, hx.1, hx.2.1.mono hB, hx.2.2.1.mono hB, hx.2.2.2.1.mono hB, hx.2.2.2.2.mono hB⟩, ?_⟩
    refine frAt hB hg r (k + 1) (fun j u hu => ?_) (fun y hy => hin y (by simp [hy]))
    have := hc (11 + j) u (by
      rw [frC, List.getElem?_append_right (by simp [stC])]
      simpa [stC] using hu)
    rw [show (k + 1) * 11 + j = k * 11 + (11 + j) by omega]; exact this
/-- The error of a statement by itself: in thread j of the name tn, inside ar, with what was spawned and set. -/
def stE (p : Pr) (j : Nat) (tn t0n : ByteArray) (ar : StL) (f g : List UInt8 → Bool) (h : StH) : Int :=
  if h.op == 1 then asgE p j h else if h.op == 2 || h.op == 3 then exE p j h.xop h.xn h.xnm h.xkids else
  if h.op == 4 then firstE [kindE (mean p j h.nm) [4], nest (insP ar [7] || insN ar h.nm [4])] else
  if h.op == 5 || h.op == 6 then firstE [kindE (mean p j h.nm) [5], nest (insP ar [7] || insN ar h.nm [5, 6])] else
  if h.op == 7 then nest (insP ar [7]) else if h.op == 8 then nest (insP ar [7, 8]) else
  if h.op == 9 || h.op == 10 || h.op == 11 then firstE [kindE (mean p j h.nm) [6], nest ((insP ar [7] || !insN ar (mutexP p.ds h.nm) [4]) || (h.op == 9 && insP ar [8]))] else
  if h.op == 12 then firstE [kindE (mean p j h.nm) [8], nest (insP ar [7, 8, 3] || (h.nm.toList == tn.toList || h.nm.toList == t0n.toList)), (onceE (f h.nm.toList))] else
  if h.op == 13 then firstE [kindE (mean p j h.nm) [8], nest (insP ar [7, 8] || h.nm.toList == tn.toList)] else
  if h.op == 14 then firstE [kindE (mean p j h.nm) [7], nest (insP ar [7, 3]), (onceE (g h.nm.toList)), exE p j h.xop h.xn h.xnm h.xkids] else
  if h.op == 15 then firstE [kindE (mean p j h.nm) [1], kindE (mean p j h.arg) [7], nest (insP ar [7])] else 0
end Md
open Md
/-- The cells of the checker. -/
def ckV (p : Pr) (aoD aoT : Option Addr) (capD capT : Nat) (i : Int) (v : Value) (bs bt : Nat) : Array Value := #[.slice aoD p.ds.length capD, .slice aoT p.ts.length capT, .int .i64 i, v, .map (some bs), .map (some bt)]
/-- Where things lie: the program below B0, the checker and its two maps between B0 and B1. -/
structure Lay where
  B0 : Nat
  B1 : Nat
  bc : Nat
  bs : Nat
  bt : Nat
  c0 : B0 ≤ bc
  s0 : B0 ≤ bs
  t0 : B0 ≤ bt
  c1 : bc < B1
  s1 : bs < B1
  t1 : bt < B1
  cs : bc ≠ bs
  ct : bc ≠ bt
  st : bs ≠ bt
  kw : 0 < B0
/-- The program and the table of keywords, below B0. -/
def PrB (w : World) (B0 : Nat) (p : Pr) (aoD aoT : Option Addr) : Prop := p.ds.length ≤ maxLen ∧ p.ts.length ≤ maxLen ∧ DeAt w B0 p.ds aoD 0 ∧ ThAt w B0 p.ts aoT 0 ∧ KwLaid w
theorem PrB.below {w w' : World} {L : Lay} {p : Pr} {aoD aoT : Option Addr} (h : PrB w L.B0 p aoD aoT) (hb : Below L.B0 w w') : PrB w' L.B0 p aoD aoT :=
  ⟨h.1, h.2.1, h.2.2.1.below hb, h.2.2.2.1.below hb, h.2.2.2.2.below hb L.kw⟩
theorem PrB.use {w : World} {B0 : Nat} {p : Pr} {aoD aoT : Option Addr} (h : PrB w B0 p aoD aoT) (hB : B0 ≤ w.heap.size) : p.At w aoD aoT := ⟨h.1, h.2.1, h.2.2.1.mono hB, h.2.2.2.1.mono hB⟩
/-- What was there is as it was, but for the checker, its maps and the row of a slice. -/
structure Kp (L : Lay) (v : Value) (w w' : World) : Prop where
  os : w'.os = w.os
  tape : w'.tape = w.tape
  output : w'.output = w.output
  size : w.heap.size ≤ w'.heap.size
  block : ∀ k, k < w.heap.size → k ≠ L.bc → k ≠ L.bs → k ≠ L.bt → v.ownBlock ≠ some k → w'.heap[k]? = w.heap[k]?
/-- The row of a slice is that of another one, or new. -/
def OwnR (w : World) (v v' : Value) : Prop := v'.ownBlock = v.ownBlock ∨ ∃ g, v'.ownBlock = some g ∧ w.heap.size ≤ g
theorem Kp.refl (L : Lay) (v : Value) (w : World) : Kp L v w w := ⟨rfl, rfl, rfl, Nat.le_refl _, fun _ _ _ _ _ _ => rfl⟩
theorem Kp.of_below {L : Lay} {v : Value} {w w' : World} (h : Below w.heap.size w w') : Kp L v w w' := ⟨h.os, h.tape, h.output, h.size, fun k hk _ _ _ _ => h.block k hk⟩
theorem Kp.trans {L : Lay} {v v1 : Value} {w w1 w2 : World} (h : Kp L v w w1) (ho : OwnR w v v1 ∨ v1.ownBlock = none) (k : Kp L v1 w1 w2) : Kp L v w w2 :=
  ⟨k.os.trans h.os, k.tape.trans h.tape, k.output.trans h.output, Nat.le_trans h.size k.size, fun j hj hc hs ht hv => (k.block j (Nat.lt_of_lt_of_le hj h.size) hc hs ht (by
    rcases ho with (e | ⟨g, e, hg⟩) | e
    · rw [e]; exact hv
    · rw [e]; intro e'; injection e' with e'; omega
    · rw [e]; simp)).trans (h.block j hj hc hs ht hv)⟩
theorem Kp.below {L : Lay} {v : Value} {w w' : World} (h : Kp L v w w') (hB : L.B0 ≤ w.heap.size) (hv : ∀ k, v.ownBlock = some k → L.B1 ≤ k) : Below L.B0 w w' :=
  ⟨h.os, h.tape, h.output, h.size, fun k hk => h.block k (by omega) (by have := L.c0; omega) (by have := L.s0; omega) (by have := L.t0; omega) (fun e => by have := hv k e; have := L.c0; have := L.c1; omega)⟩
theorem Kp.far {L : Lay} {v : Value} {w w' : World} {k : Nat} (h : Kp L v w w') (hk : k < w.heap.size) (hB : L.B1 ≤ k) (hv : v.ownBlock ≠ some k) : w'.heap[k]? = w.heap[k]? :=
  h.block k hk (by have := L.c1; omega) (by have := L.s1; omega) (by have := L.t1; omega) hv
theorem OwnR.trans {w w1 : World} {v v1 v2 : Value} (h : OwnR w v v1) (k : OwnR w1 v1 v2) (hs : w.heap.size ≤ w1.heap.size) : OwnR w v v2 := by
  rcases k with e | ⟨g, e, hg⟩
  · rcases h with e' | ⟨g, e', hg⟩
    · exact .inl (e.trans e')
    · exact .inr ⟨g, e.trans e', hg⟩
  · exact .inr ⟨g, e, Nat.le_trans hs hg⟩
theorem OwnR.ne {w : World} {v v' : Value} {k : Nat} (h : OwnR w v v') (hk : k < w.heap.size) (hv : v.ownBlock ≠ some k) : v'.ownBlock ≠ some k := by
  rcases h with e | ⟨g, e, hg⟩
  · rw [e]; exact hv
  · rw [e]; intro e'; injection e' with e'; omega
/-- The checker as it stands. -/
structure CkI (w : World) (L : Lay) (p : Pr) (aoD aoT : Option Addr) (capD capT : Nat) (i : Int) (A : List Fr) (f g : List UInt8 → Bool) (n m : Nat) (v : Value) : Prop where
  blk : w.heap[L.bc]? = some (.cells (ckV p aoD aoT capD capT i v L.bs L.bt) 146 (0, 0))
  row : w.ownsRow L.B1 91 11 v A.length (frC A)
  ms : MapB w L.bs n f
  mt : MapB w L.bt m g
  sz : L.B1 ≤ w.heap.size
  dat : PrB w L.B0 p aoD aoT
  frs : FrIn w L.B0 A
section
variable {w : World} {L : Lay} {p : Pr} {aoD aoT : Option Addr} {capD capT : Nat} {i : Int} {A : List Fr} {f g : List UInt8 → Bool} {n m : Nat} {v : Value}
theorem CkI.b0 (h : CkI w L p aoD aoT capD capT i A f g n m v) : L.B0 ≤ w.heap.size := by have := h.sz; have := L.c0; have := L.c1; omega
theorem CkI.form (h : CkI w L p aoD aoT capD capT i A f g n m v) : ∃ aoA capA, v = .slice aoA A.length capA ∧ (frL A).At w w.heap.size aoA 0 := by
  rcases h.row.2 with ⟨rfl, hn⟩ | ⟨g', cap, cur, rfl, hb, hg, h1, h2, h3, h4⟩
  · have : A = [] := List.eq_nil_of_length_eq_zero hn
    subst this
    exact ⟨none, 0, rfl, trivial⟩
  · refine ⟨_, _, rfl, frAt h.b0 (Array.getElem?_eq_some_iff.1 hg).1 A 0 (fun j u hu => ?_) h.frs⟩
    rw [Nat.zero_mul, Nat.zero_add, cell_of_row w g' j cur _ (0, 0) hg]
    rw [← h4, List.getElem?_take] at hu
    split at hu
    · simpa using hu
    · cases hu
theorem cell_blk {w : World} {b j : Nat} {cs : Array Value} {t : TypeId} {fr : Nat × Nat} {u : Value} (h : w.heap[b]? = some (.cells cs t fr)) (hu : cs[j]? = some u) : b < w.heap.size ∧ w.cell? ⟨b, j, none⟩ = some u :=
  ⟨(Array.getElem?_eq_some_iff.1 h).1, by rw [cell_of_row w b j cs t fr h]; exact hu⟩
theorem CkI.holds {aoA : Option Addr} {capA : Nat} (h : CkI w L p aoD aoT capD capT i A f g n m (.slice aoA A.length capA)) : Holds w (ckF L.bc p aoD aoT capD capT i aoA (frL A).len capA L.bs L.bt) := by
  have hb := h.blk
  rw [frL_len]
  exact ⟨cell_blk hb (j := 0) rfl, cell_blk hb (j := 1) rfl, cell_blk hb (j := 2) rfl, cell_blk hb (j := 3) rfl, cell_blk hb (j := 4) rfl, cell_blk hb (j := 5) rfl, trivial⟩
theorem CkI.below {w' : World} (h : CkI w L p aoD aoT capD capT i A f g n m v) (hb : Below w.heap.size w w') : CkI w' L p aoD aoT capD capT i A f g n m v where
  blk := (hb.block _ (Array.getElem?_eq_some_iff.1 h.blk).1).trans h.blk
  row := h.row.kept (row := none) ⟨hb.os, hb.tape, hb.output, hb.size, fun k hk _ => hb.block k hk⟩ (by cases hv : v.ownBlock <;> simp)
  ms := h.ms.next hb
  mt := h.mt.next hb
  sz := Nat.le_trans h.sz hb.size
  dat := h.dat.below (hb.mono h.b0)
  frs := fun x hx => (h.frs x hx).below (hb.mono h.b0)
theorem CkI.own_ne (h : CkI w L p aoD aoT capD capT i A f g n m v) {b : Nat} (hb : b < L.B1) : v.ownBlock = none ∨ v.ownBlock ≠ some b := by
  cases hv : v.ownBlock with
  | none => exact .inl rfl
  | some k => refine .inr (fun e => ?_); injection e with e; subst e; have := (h.row.lt _ hv).1; omega
theorem CkI.putS {w' : World} {f' : List UInt8 → Bool} {n' : Nat} (h : CkI w L p aoD aoT capD capT i A f g n m v) (hg : w.grownBy w' (some L.bs)) (hm : MapB w' L.bs n' f') : CkI w' L p aoD aoT capD capT i A f' g n' m v := by
  have hbel := grown_below hg L.s0 h.b0
  exact { blk := (hg.block _ (Array.getElem?_eq_some_iff.1 h.blk).1 (by simp; exact L.cs)).trans h.blk, row := h.row.kept hg (h.own_ne L.s1), ms := hm, mt := h.mt.same (hg.block _ h.mt.lt (by simp; exact L.st.symm)), sz := Nat.le_trans h.sz hg.size, dat := h.dat.below hbel, frs := fun x hx => (h.frs x hx).below hbel }
theorem CkI.putT {w' : World} {g' : List UInt8 → Bool} {m' : Nat} (h : CkI w L p aoD aoT capD capT i A f g n m v) (hg : w.grownBy w' (some L.bt)) (hm : MapB w' L.bt m' g') : CkI w' L p aoD aoT capD capT i A f g' n m' v := by
  have hbel := grown_below hg L.t0 h.b0
  exact { blk := (hg.block _ (Array.getElem?_eq_some_iff.1 h.blk).1 (by simp; exact L.ct)).trans h.blk, row := h.row.kept hg (h.own_ne L.t1), ms := h.ms.same (hg.block _ h.ms.lt (by simp; exact L.st)), mt := hm, sz := Nat.le_trans h.sz hg.size, dat := h.dat.below hbel, frs := fun x hx => (h.frs x hx).below hbel }
end
end Go.Proofs.YtommnhglgedflaaGreatDoor
end
section
namespace Go.Proofs.YtommnhglgedflaaGreatDoor
open Go.RowKit
open Md
def fS (h : StH) (f : List UInt8 → Bool) : List UInt8 → Bool := if h.op == 12 then setP f h.nm.toList else f
def gS (h : StH) (g : List UInt8 → Bool) : List UInt8 → Bool := if h.op == 14 then setP g h.nm.toList else g
def nS (k : Int) (h : StH) (n : Nat) : Nat := if h.op == k then n + 1 else n
/-- What a statement leaves. -/
def CkSP (w : World) (L : Lay) (p : Pr) (aoD aoT : Option Addr) (capD capT : Nat) (i : Int) (A : List Fr) (h : StH) (f g : List UInt8 → Bool) (n m : Nat) (v : Value) (r : Int) (e : Ending) (w' : World) : Prop :=
  e = .returned (.int .i64 r) ∧ Kp L (.slice none 0 0) w w' ∧ CkI w' L p aoD aoT capD capT i A (fS h f) (gS h g) (nS 12 h n) (nS 14 h m) v
theorem CkSP.plain {w w' : World} {L : Lay} {p : Pr} {aoD aoT : Option Addr} {capD capT : Nat} {i : Int} {A : List Fr} {h : StH} {f g : List UInt8 → Bool} {n m : Nat} {v : Value} {r x : Int} {e : Ending}
    (hI : CkI w L p aoD aoT capD capT i A f g n m v) (h12 : (h.op == 12) = false) (h14 : (h.op == 14) = false) (hr : r = x) (hp : e = .returned (.int .i64 x) ∧ Below w.heap.size w w') : CkSP w L p aoD aoT capD capT i A h f g n m v r e w' := by
  subst hr
  refine ⟨hp.1, Kp.of_below hp.2, ?_⟩
  unfold fS gS nS
  rw [h12, h14]
  exact hI.below hp.2
theorem CkI.grow {w w' : World} {L : Lay} {p : Pr} {aoD aoT : Option Addr} {capD capT : Nat} {i : Int} {A : List Fr} {f g : List UInt8 → Bool} {n m : Nat} {v : Value} {b : Nat}
    (h : CkI w L p aoD aoT capD capT i A f g n m v) (hb : L.B0 ≤ b) (hb1 : b < L.B1) (hg : w.grownBy w' (some b)) : p.At w' aoD aoT ∧ KwLaid w' ∧ ∀ aoA capA, v = .slice aoA A.length capA → (frL A).At w' w'.heap.size aoA 0 := by
  have hbel := grown_below hg hb h.b0
  have hd := h.dat.below hbel
  have hB : L.B0 ≤ w'.heap.size := Nat.le_trans h.b0 hg.size
  refine ⟨hd.use hB, hd.2.2.2.2, fun aoA capA hv => ?_⟩
  rcases (h.row.kept hg (h.own_ne hb1)).2 with ⟨e, hn⟩ | ⟨g', cap, cur, e, hbb, hgg, h1, h2, h3, h4⟩
  · have : A = [] := List.eq_nil_of_length_eq_zero hn
    subst this; exact trivial
  · rw [hv] at e
    injection e with e1 e2 e3
    subst e1
    refine frAt hB (Array.getElem?_eq_some_iff.1 hgg).1 A 0 (fun j u hu => ?_) (fun x hx => (h.frs x hx).below hbel)
    rw [Nat.zero_mul, Nat.zero_add, cell_of_row w' g' j cur _ (0, 0) hgg]
    rw [← h4, List.getElem?_take] at hu
    split at hu
    · simpa using hu
    · cases hu
theorem ckStmt_any (w : World) (L : Lay) (p : Pr) (aoD aoT : Option Addr) (capD capT : Nat) (j : Nat) (A : List Fr) (f g : List UInt8 → Bool) (n m : Nat) (v : Value) (t t0 : Th) (r r0 : List Th) (hd : p.ts.drop j = t :: r) (hts : p.ts = t0 :: r0) (hj : I64 (j : Int)) (hA : A.length ≤ maxLen) (hn : n < maxLen) (hm : m < maxLen)
    (hI : CkI w L p aoD aoT capD capT (j : Int) A f g n m v) (h : StH) (b e : StL) (s : Sl) (hin : StInB w L.B0 h b e s) :
    Calls Tryz.prog 136 #[.pointer (some ⟨L.bc, 0, none⟩), stV h b e s] w (CkSP w L p aoD aoT capD capT (j : Int) A h f g n m v (stE p j t.nm t0.nm (frL A) f g h)) := by
  obtain ⟨aoA, capA, rfl, hat⟩ := hI.form
  have hp := hI.dat.use hI.b0
  have hin' := hin.use hI.b0
  have hkw := hI.dat.2.2.2.2
  have hal : (frL A).len ≤ maxLen := by rw [frL_len]; exact hA
  have hh := hI.holds
  by_cases h0 : h.op < 1 ∨ 15 < h.op
  · refine (ckStmt0 p w aoD aoT capD capT j aoA capA L.bs L.bt L.bc h b e (frL A) s hj hp hin' hkw hal hat hh h0).mono (fun e' w' hr => CkSP.plain hI ?_ ?_ ?_ hr)
    · rw [beq_eq_false_iff_ne]; omega
    · rw [beq_eq_false_iff_ne]; omega
    · have hb : ∀ k : Int, 1 ≤ k → k ≤ 15 → (h.op == k) = false := fun k h1 h2 => by rw [beq_eq_false_iff_ne]; omega
      unfold stE
      simp [hb]
  · have hc : h.op = 1 ∨ (h.op = 2 ∨ h.op = 3) ∨ h.op = 4 ∨ (h.op = 5 ∨ h.op = 6) ∨ h.op = 7 ∨ h.op = 8 ∨ (h.op = 9 ∨ h.op = 10 ∨ h.op = 11) ∨ h.op = 12 ∨ h.op = 13 ∨ h.op = 14 ∨ h.op = 15 := by omega
    rcases hc with hc | hc | hc | hc | hc | hc | hc | hc | hc | hc | hc
    · exact (ckStmt1 p w aoD aoT capD capT j aoA capA L.bs L.bt L.bc h b e (frL A) s hj hp hin' hkw hal hat hh hc).mono (fun e' w' hr => CkSP.plain hI (by rw [hc]; rfl) (by rw [hc]; rfl) (by unfold stE; simp [hc]) hr)
    · exact (ckStmt23 p w aoD aoT capD capT j aoA capA L.bs L.bt L.bc h b e (frL A) s hj hp hin' hkw hal hat hh hc).mono (fun e' w' hr => CkSP.plain hI (by rcases hc with hc | hc <;> (rw [hc]; rfl)) (by rcases hc with hc | hc <;> (rw [hc]; rfl)) (by unfold stE; rcases hc with hc | hc <;> simp [hc]) hr)
    · exact (ckStmt4 p w aoD aoT capD capT j aoA capA L.bs L.bt L.bc h b e (frL A) s hj hp hin' hkw hal hat hh hc).mono (fun e' w' hr => CkSP.plain hI (by rw [hc]; rfl) (by rw [hc]; rfl) (by unfold stE; simp [hc]) hr)
    · exact (ckStmt56 p w aoD aoT capD capT j aoA capA L.bs L.bt L.bc h b e (frL A) s hj hp hin' hkw hal hat hh hc).mono (fun e' w' hr => CkSP.plain hI (by rcases hc with hc | hc <;> (rw [hc]; rfl)) (by rcases hc with hc | hc <;> (rw [hc]; rfl)) (by unfold stE; rcases hc with hc | hc <;> simp [hc]) hr)
    · exact (ckStmt7 p w aoD aoT capD capT j aoA capA L.bs L.bt L.bc h b e (frL A) s hj hp hin' hkw hal hat hh hc).mono (fun e' w' hr => CkSP.plain hI (by rw [hc]; rfl) (by rw [hc]; rfl) (by unfold stE; simp [hc]) hr)
    · exact (ckStmt8 p w aoD aoT capD capT j aoA capA L.bs L.bt L.bc h b e (frL A) s hj hp hin' hkw hal hat hh hc).mono (fun e' w' hr => CkSP.plain hI (by rw [hc]; rfl) (by rw [hc]; rfl) (by unfold stE; simp [hc]) hr)
    · exact (ckStmt9 p w aoD aoT capD capT j aoA capA L.bs L.bt L.bc h b e (frL A) s hj hp hin' hkw hal hat hh hc).mono (fun e' w' hr => CkSP.plain hI (by rcases hc with hc | hc | hc <;> (rw [hc]; rfl)) (by rcases hc with hc | hc | hc <;> (rw [hc]; rfl)) (by unfold stE; rcases hc with hc | hc | hc <;> simp [hc]) hr)
    · have hcl := fun w' (hg : w.grownBy w' (some L.bs)) => hI.grow L.s0 L.s1 hg
      refine (ckStmt12 p w aoD aoT capD capT aoA capA L.bs L.bt L.bc j t t0 r r0 hd hts h b e (frL A) s hj (fun w' hg => (hcl w' hg).1) hin.1 (fun w' hg => (hin.2.2.1.below (grown_below hg L.s0 hI.b0)).mono (Nat.le_trans hI.b0 hg.size)) (fun w' hg => (hcl w' hg).2.1) hal (fun w' hg => (hcl w' hg).2.2 _ _ rfl) hh L.cs n f hn hI.ms hc).mono ?_
      rintro e' w' ⟨h1, h2, h3⟩
      refine ⟨by rw [h1]; unfold stE; simp [hc], ⟨h3.os, h3.tape, h3.output, h3.size, fun k hk _ hs _ _ => h3.block k hk (by simp; exact hs)⟩, ?_⟩
      unfold fS gS nS
      rw [hc]
      exact hI.putS h3 h2
    · exact (ckStmt13 p w aoD aoT capD capT aoA capA L.bs L.bt L.bc j t r hd h b e (frL A) s hj hp hin' hkw hal hat hh hc).mono (fun e' w' hr => CkSP.plain hI (by rw [hc]; rfl) (by rw [hc]; rfl) (by unfold stE; simp [hc]) hr)
    · have hcl := fun w' (hg : w.grownBy w' (some L.bt)) => hI.grow L.t0 L.t1 hg
      refine (ckStmt14 p w aoD aoT capD capT j aoA capA L.bs L.bt L.bc h b e (frL A) s hj (fun w' hg => (hcl w' hg).1) hin.1 (fun w' hg => (hin.2.2.1.below (grown_below hg L.t0 hI.b0)).mono (Nat.le_trans hI.b0 hg.size)) (fun w' hg => (hcl w' hg).2.1) hal (fun w' hg => (hcl w' hg).2.2 _ _ rfl) hh L.ct m g hm hI.mt hc).mono ?_
      rintro e' w' ⟨h1, h2, h3⟩
      refine ⟨by rw [h1]; unfold stE; simp [hc], ⟨h3.os, h3.tape, h3.output, h3.size, fun k hk _ _ ht _ => h3.block k hk (by simp; exact ht)⟩, ?_⟩
      unfold fS gS nS
      rw [hc]
      exact hI.putT h3 h2
    · exact (ckStmt15 p w aoD aoT capD capT aoA capA L.bs L.bt L.bc j h b e (frL A) s hj hp hin' hkw hal hat hh hc).mono (fun e' w' hr => CkSP.plain hI (by rw [hc]; rfl) (by rw [hc]; rfl) (by unfold stE; simp [hc]) hr)
end Go.Proofs.YtommnhglgedflaaGreatDoor
end
section
namespace Go.Proofs.YtommnhglgedflaaGreatDoor
open Go.RowKit
namespace Md
def StL.app : StL → StL → StL
  | .nil, s => s
  | .cons h b e r, s => .cons h b e (r.app s)
theorem frL_snoc : ∀ (A : List Fr) (x : Fr), frL (A ++ [x]) = (frL A).app (.cons x.h x.b x.e .nil)
  | [], _ => rfl
  | y :: r, x => by simp only [List.cons_append, frL, StL.app, frL_snoc r x]
/-- What comes of a list: the error, its line, and what was spawned and set. -/
structure CkR where
  err : Int
  line : Int
  f : List (List UInt8)
  g : List (List UInt8)
def mem (l : List (List UInt8)) : List UInt8 → Bool := fun x => l.contains x
def fL (k : Int) (h : StH) (f : List (List UInt8)) : List (List UInt8) := if h.op == k then h.nm.toList :: f else f
def ckL (p : Pr) (j : Nat) (tn t0n : ByteArray) : StL → StL → List (List UInt8) → List (List UInt8) → CkR
  | .nil, _, f, g => ⟨0, 0, f, g⟩
  | .cons h b e r, ar, f, g =>
    if decide (6 < ar.len + 1) then ⟨2, h.line, f, g⟩ else
    if stE p j tn t0n ar (mem f) (mem g) h != 0 then ⟨stE p j tn t0n ar (mem f) (mem g) h, h.line, f, g⟩ else
    if (ckL p j tn t0n b (ar.app (.cons h b e .nil)) (fL 12 h f) (fL 14 h g)).err != 0 then ckL p j tn t0n b (ar.app (.cons h b e .nil)) (fL 12 h f) (fL 14 h g) else
    if (ckL p j tn t0n e (ar.app (.cons h b e .nil)) (ckL p j tn t0n b (ar.app (.cons h b e .nil)) (fL 12 h f) (fL 14 h g)).f (ckL p j tn t0n b (ar.app (.cons h b e .nil)) (fL 12 h f) (fL 14 h g)).g).err != 0 then
      ckL p j tn t0n e (ar.app (.cons h b e .nil)) (ckL p j tn t0n b (ar.app (.cons h b e .nil)) (fL 12 h f) (fL 14 h g)).f (ckL p j tn t0n b (ar.app (.cons h b e .nil)) (fL 12 h f) (fL 14 h g)).g else
    ckL p j tn t0n r ar (ckL p j tn t0n e (ar.app (.cons h b e .nil)) (ckL p j tn t0n b (ar.app (.cons h b e .nil)) (fL 12 h f) (fL 14 h g)).f (ckL p j tn t0n b (ar.app (.cons h b e .nil)) (fL 12 h f) (fL 14 h g)).g).f
      (ckL p j tn t0n e (ar.app (.cons h b e .nil)) (ckL p j tn t0n b (ar.app (.cons h b e .nil)) (fL 12 h f) (fL 14 h g)).f (ckL p j tn t0n b (ar.app (.cons h b e .nil)) (fL 12 h f) (fL 14 h g)).g).g
/-- What was spawned are names of threads, each once; what was set are names of declarations, each once. -/
def Few (ns : List (List UInt8)) (f : List (List UInt8)) : Prop := f.Nodup ∧ ∀ x ∈ f, x ∈ ns
theorem Few.le {ns f : List (List UInt8)} (h : Few ns f) : f.length ≤ ns.length := h.1.length_le_of_subset (fun _ hx => h.2 _ hx)
def tNames (p : Pr) : List (List UInt8) := p.ts.map fun t => t.nm.toList
def dNames (p : Pr) : List (List UInt8) := p.ds.map fun d => d.nm.toList
theorem firstE_zero : ∀ {l : List Int}, firstE l = 0 → ∀ x ∈ l, x = 0
  | [], _, _, h => by simp at h
  | a :: r, h, x, hx => by
    unfold firstE at h
    by_cases ha : (a != 0) = true
    · rw [if_pos ha] at h; subst h; simp at ha
    · rw [if_neg ha] at h
      have ha' : a = 0 := by simpa using ha
      rcases List.mem_cons.1 hx with rfl | hx
      · exact ha'
      · exact firstE_zero h x hx
theorem kindE_zero {m k : Int} (h : kindE m [k] = 0) : m = k := by
  unfold kindE at h
  by_cases h0 : (m == 0) = true
  · rw [if_pos h0] at h; simp at h
  · rw [if_neg h0] at h
    by_cases h1 : ([k].any fun x => m == x) = true
    · simpa using h1
    · rw [if_neg h1] at h; simp at h
theorem onceE_zero {b : Bool} (h : onceE b = 0) : b = false := by cases b <;> simp [onceE] at h ⊢
theorem mean_thread {p : Pr} {j : Int} {nm : ByteArray} (h : mean p j nm = 8) : nm.toList ∈ tNames p := by
  unfold mean at h
  split at h
  · cases h
  · cases hd : meanD p.ds nm with
    | some m =>
      rw [hd] at h
      unfold meanD at hd
      obtain ⟨d, -, hm⟩ := Option.map_eq_some_iff.1 hd
      exfalso
      have : declM d ≠ 8 := by unfold declM; repeat' split
                               all_goals decide
      rw [hm] at this; exact this h
    | none =>
      rw [hd] at h
      simp only [Option.getD_none] at h
      unfold meanT at h
      split at h
      · rename_i ha
        obtain ⟨t, ht, he⟩ := List.any_eq_true.1 ha
        unfold tNames
        exact List.mem_map.2 ⟨t, ht, by simpa using he⟩
      · cases h
theorem mean_future {p : Pr} {j : Int} {nm : ByteArray} (h : mean p j nm = 7) : nm.toList ∈ dNames p := by
  unfold mean at h
  split at h
  · cases h
  · cases hd : meanD p.ds nm with
    | some m =>
      unfold meanD at hd
      obtain ⟨d, hf, -⟩ := Option.map_eq_some_iff.1 hd
      unfold dNames
      exact List.mem_map.2 ⟨d, List.mem_of_find?_eq_some hf, by simpa using List.find?_some hf⟩
    | none =>
      rw [hd] at h
      simp only [Option.getD_none] at h
      unfold meanT at h
      split at h <;> cases h
theorem few_f {p : Pr} {j : Nat} {tn t0n : ByteArray} {ar : StL} {f g : List (List UInt8)} {h : StH} (hf : Few (tNames p) f) (h0 : stE p j tn t0n ar (mem f) (mem g) h = 0) : Few (tNames p) (fL 12 h f) := by
  unfold fL
  by_cases h12 : (h.op == 12) = true
  · rw [if_pos h12]
    have e : h.op = 12 := by simpa using h12
    have hs : stE p j tn t0n ar (mem f) (mem g) h = firstE [kindE (mean p j h.nm) [8], nest (insP ar [7, 8, 3] || (h.nm.toList == tn.toList || h.nm.toList == t0n.toList)), (onceE (mem f h.nm.toList))] := by unfold stE; simp [e]
    rw [hs] at h0
    have h1 := firstE_zero h0 _ (by simp : kindE (mean p j h.nm) [8] ∈ _)
    have h2 := firstE_zero h0 _ (by simp : onceE (mem f h.nm.toList) ∈ _)
    refine ⟨List.nodup_cons.2 ⟨?_, hf.1⟩, fun x hx => ?_⟩
    · have := onceE_zero h2; unfold mem at this; simpa using this
    · rcases List.mem_cons.1 hx with rfl | hx
      · exact mean_thread (kindE_zero h1)
      · exact hf.2 x hx
  · rw [if_neg h12]; exact hf
theorem few_g {p : Pr} {j : Nat} {tn t0n : ByteArray} {ar : StL} {f g : List (List UInt8)} {h : StH} (hf : Few (dNames p) g) (h0 : stE p j tn t0n ar (mem f) (mem g) h = 0) : Few (dNames p) (fL 14 h g) := by
  unfold fL
  by_cases h12 : (h.op == 14) = true
  · rw [if_pos h12]
    have e : h.op = 14 := by simpa using h12
    have hs : stE p j tn t0n ar (mem f) (mem g) h = firstE [kindE (mean p j h.nm) [7], nest (insP ar [7, 3]), (onceE (mem g h.nm.toList)), exE p j h.xop h.xn h.xnm h.xkids] := by unfold stE; simp [e]
    rw [hs] at h0
    have h1 := firstE_zero h0 _ (by simp : kindE (mean p j h.nm) [7] ∈ _)
    have h2 := firstE_zero h0 _ (by simp : onceE (mem g h.nm.toList) ∈ _)
    refine ⟨List.nodup_cons.2 ⟨?_, hf.1⟩, fun x hx => ?_⟩
    · have := onceE_zero h2; unfold mem at this; simpa using this
    · rcases List.mem_cons.1 hx with rfl | hx
      · exact mean_future (kindE_zero h1)
      · exact hf.2 x hx
  · rw [if_neg h12]; exact hf
end Md
open Md
theorem mem_cons (x : List UInt8) (f : List (List UInt8)) : setP (mem f) x = mem (x :: f) := by
  funext y; unfold setP mem; by_cases h : y = x
  · subst h; simp
  · rw [if_neg h]; simp [h]
theorem fS_mem (h : StH) (f : List (List UInt8)) : fS h (mem f) = mem (fL 12 h f) := by
  unfold fS fL; cases h.op == 12 <;> simp [mem_cons]
theorem gS_mem (h : StH) (f : List (List UInt8)) : gS h (mem f) = mem (fL 14 h f) := by
  unfold gS fL; cases h.op == 14 <;> simp [mem_cons]
theorem nS_len (k : Int) (h : StH) (f : List (List UInt8)) : nS k h f.length = (fL k h f).length := by
  unfold nS fL; cases h.op == k <;> simp
end Go.Proofs.YtommnhglgedflaaGreatDoor
end
section
set_option linter.unusedVariables false
namespace Go.Proofs.YtommnhglgedflaaGreatDoor
open Go.RowKit
open Md
theorem setCell_comm (w : World) {a a' : Addr} (v v' : Value) (h : a.block ≠ a'.block) : (w.setCell a v).setCell a' v' = (w.setCell a' v').setCell a v := by
  unfold World.setCell
  congr 1
  refine Array.ext_getElem? (fun k => ?_)
  simp only [Array.getElem?_modify]
  by_cases h1 : a'.block = k
  · by_cases h2 : a.block = k
    · exact (h (h2.trans h1.symm)).elim
    · simp [h1, h2]
  · by_cases h2 : a.block = k <;> simp [h1, h2]
theorem setCells_comm {b : Nat} {a' : Addr} (v' : Value) (h : b ≠ a'.block) : ∀ (vs : List Value) (o : Nat) (w : World), (w.setCell a' v').setCells b o vs = (w.setCells b o vs).setCell a' v'
  | [], _, _ => rfl
  | v :: vs, o, w => by
    simp only [World.setCells]
    rw [← setCell_comm w (a := ⟨b, o, none⟩) (a' := a') v v' h]
    exact setCells_comm v' h vs (o + 1) _
/-- The two stores that follow an append: the element, and the field. -/
def PC (w4 : World) (g o : Nat) (vs : List Value) (a : Addr) (v : Value) : List Bool → World → Prop
  | [x, y], w' => w' = (if y then (if x then w4.setCells g o vs else w4).setCell a v else (if x then w4.setCells g o vs else w4))
  | _, _ => False
theorem PC.bits {w4 : World} {g o : Nat} {vs : List Value} {a : Addr} {v : Value} : ∀ {c : List Bool} {w' : World}, PC w4 g o vs a v c w' → ∃ x y, c = [x, y]
  | [x, y], _, _ => ⟨x, y, rfl⟩
  | [], _, h => h.elim
  | [_], _, h => h.elim
  | _ :: _ :: _ :: _, _, h => h.elim
theorem PC.skip {w4 : World} {g o : Nat} {vs : List Value} {a : Addr} {v : Value} {a1 a2 i : Nat} {c : List Bool} {w' : World} (h1 : (a1 == i) = false) (h2 : (a2 == i) = false) (h : PC w4 g o vs a v c w') : PC w4 g o vs a v (setB [a1, a2] c i) w' := by
  obtain ⟨x, y, rfl⟩ := h.bits
  simp only [setB, h1, h2, Bool.or_false]; exact h
theorem PC.elt {w4 : World} {g o : Nat} {vs : List Value} {a : Addr} {v : Value} {a1 a2 i : Nat} {y : Bool} {w' : World} (hg : g ≠ a.block) (h1 : (a1 == i) = true) (h2 : (a2 == i) = false) (h : PC w4 g o vs a v [false, y] w') : PC w4 g o vs a v (setB [a1, a2] [false, y] i) (w'.setCells g o vs) := by
  simp only [setB, h1, h2, Bool.or_false, Bool.or_true]
  cases y
  · have h : w' = w4 := h
    subst h; rfl
  · have h : w' = w4.setCell a v := h
    subst h; exact setCells_comm v hg vs o w4
theorem PC.fld {w4 : World} {g o : Nat} {vs : List Value} {a : Addr} {v : Value} {a1 a2 i : Nat} {x : Bool} {w' : World} (h1 : (a1 == i) = false) (h2 : (a2 == i) = true) (h : PC w4 g o vs a v [x, false] w') : PC w4 g o vs a v (setB [a1, a2] [x, false] i) (w'.setCell a v) := by
  simp only [setB, h1, h2, Bool.or_false, Bool.or_true]
  cases x
  · have h : w' = w4 := h
    subst h; rfl
  · have h : w' = w4.setCells g o vs := h
    subst h; rfl
theorem PC.elt_blk {w4 : World} {g o : Nat} {vs : List Value} {a : Addr} {v : Value} {y : Bool} {w' : World} (hg : g ≠ a.block) (h : PC w4 g o vs a v [false, y] w') : w'.heap[g]? = w4.heap[g]? := by
  cases y
  · have h : w' = w4 := h
    rw [h]
  · have h : w' = w4.setCell a v := h
    rw [h]; exact setCell_far w4 a v rfl (fun e => hg e.symm)
theorem PC.fld_blk {w4 : World} {g o : Nat} {vs : List Value} {a : Addr} {v : Value} {x : Bool} {w' : World} (hg : g ≠ a.block) (h : PC w4 g o vs a v [x, false] w') (hl : a.block < w4.heap.size) : w'.heap[a.block]? = w4.heap[a.block]? := by
  cases x
  · have h : w' = w4 := h
    rw [h]
  · have h : w' = w4.setCells g o vs := h
    rw [h]; exact (setCells_grown g vs o w4).block _ hl (by simp; exact fun e => hg e.symm)
section
variable {w : World} {L : Lay} {p : Pr} {aoD aoT : Option Addr} {capD capT : Nat} {i : Int} {A : List Fr} {f g : List UInt8 → Bool} {n m : Nat} {v : Value}
theorem CkI.push {wz w4 : World} {g' cap' : Nat} {zs : List Value} (h : CkI w L p aoD aoT capD capT i A f g n m v) (x : Fr) (hx : StInB w L.B0 x.h x.b x.e x.s) (hb : Below w.heap.size w wz) (hown : w4.ownsRow L.B1 91 11 (.slice (some ⟨g', 0, none⟩) (A.length + 1) cap') (A.length + 1) (frC A ++ zs)) (hgr : wz.grownBy w4 v.ownBlock) (hat : v.ownBlock = some g' ∨ g' = wz.heap.size) :
    CkI ((w4.setCells g' (A.length * 11) (stC x.h x.b x.e x.s)).setCell ⟨L.bc, 3, none⟩ (.slice (some ⟨g', 0, none⟩) (A.length + 1) cap')) L p aoD aoT capD capT i (A ++ [x]) f g n m (.slice (some ⟨g', 0, none⟩) (A.length + 1) cap') ∧
    Kp L v w ((w4.setCells g' (A.length * 11) (stC x.h x.b x.e x.s)).setCell ⟨L.bc, 3, none⟩ (.slice (some ⟨g', 0, none⟩) (A.length + 1) cap')) ∧ OwnR w v (.slice (some ⟨g', 0, none⟩) (A.length + 1) cap') := by
  have hg1 := (hown.lt g' rfl).1
  have hg2 := (hown.lt g' rfl).2
  have hc1 := L.c1
  have hs1 := L.s1
  have ht1 := L.t1
  have hput := owns_put (vs := stC x.h x.b x.e x.s) hown (frC_len A) rfl
  generalize hw5 : w4.setCells g' (A.length * 11) (stC x.h x.b x.e x.s) = w5 at *
  have hgw : w4.grownBy w5 (some g') := by rw [← hw5]; exact setCells_grown _ _ _ _
  have hgz := setCell_grown w5 ⟨L.bc, 3, none⟩ (.slice (some ⟨g', 0, none⟩) (A.length + 1) cap')
  have hsz : w.heap.size ≤ w4.heap.size := Nat.le_trans hb.size hgr.size
  have hlow : ∀ k, k < w.heap.size → v.ownBlock ≠ some k → w5.heap[k]? = w.heap[k]? := fun k hk hv => by
    have hkg : k ≠ g' := by
      rcases hat with e | e
      · intro e'; exact hv (by rw [e, e'])
      · have := hb.size; omega
    rw [hgw.block k (by omega) (by simp; exact hkg), hgr.block k (Nat.lt_of_lt_of_le hk hb.size) (fun e => hv e.symm), hb.block k hk]
  have hlow' : ∀ k, k < L.B1 → w5.heap[k]? = w.heap[k]? := fun k hk => hlow k (Nat.lt_of_lt_of_le hk h.sz) (fun e => by have := (h.row.lt k e).1; omega)
  have hkp : Kp L v w (w5.setCell ⟨L.bc, 3, none⟩ (.slice (some ⟨g', 0, none⟩) (A.length + 1) cap')) :=
    ⟨hgz.os.trans (hgw.os.trans (hgr.os.trans hb.os)), hgz.tape.trans (hgw.tape.trans (hgr.tape.trans hb.tape)), hgz.output.trans (hgw.output.trans (hgr.output.trans hb.output)), Nat.le_trans hsz (Nat.le_trans hgw.size hgz.size), fun k hk hc _ _ hv =>
      (hgz.block k (Nat.lt_of_lt_of_le hk (Nat.le_trans hsz hgw.size)) (by simp; exact hc)).trans (hlow k hk hv)⟩
  have hbel := hkp.below h.b0 (fun k e => (h.row.lt k e).1)
  have hfar : ∀ k, k < L.B1 → k ≠ L.bc → (w5.setCell ⟨L.bc, 3, none⟩ (.slice (some ⟨g', 0, none⟩) (A.length + 1) cap')).heap[k]? = w.heap[k]? := fun k hk hc => by
    rw [setCell_far w5 ⟨L.bc, 3, none⟩ _ rfl (fun e => hc e.symm)]; exact hlow' k hk
  refine ⟨?_, hkp, ?_⟩
  · refine { blk := ?_, row := ?_, ms := h.ms.same (hfar _ hs1 (fun e => L.cs e.symm)), mt := h.mt.same (hfar _ ht1 (fun e => L.ct e.symm)), sz := ?_, dat := h.dat.below hbel, frs := ?_ }
    · exact setCell_blk ((hlow' _ hc1).trans h.blk) _
    · rw [List.length_append, frC_snoc]
      refine hput.kept hgz (.inr ?_)
      simp [Value.ownBlock]; omega
    · exact Nat.le_trans h.sz hkp.size
    · intro y hy
      rcases List.mem_append.1 hy with hy | hy
      · exact (h.frs y hy).below hbel
      · obtain rfl := List.mem_singleton.1 hy; exact hx.below hbel
  · rcases hat with e | e
    · exact .inl (by rw [e]; rfl)
    · exact .inr ⟨g', rfl, by rw [e]; exact hb.size⟩
theorem CkI.pop {wz : World} {g' cap' : Nat} (x : Fr) (h : CkI w L p aoD aoT capD capT i (A ++ [x]) f g n m (.slice (some ⟨g', 0, none⟩) (A.length + 1) cap')) (hb : Below w.heap.size w wz) :
    CkI (wz.setCell ⟨L.bc, 3, none⟩ (.slice (some ⟨g', 0, none⟩) A.length cap')) L p aoD aoT capD capT i A f g n m (.slice (some ⟨g', 0, none⟩) A.length cap') ∧
    Kp L (.slice (some ⟨g', 0, none⟩) (A.length + 1) cap') w (wz.setCell ⟨L.bc, 3, none⟩ (.slice (some ⟨g', 0, none⟩) A.length cap')) := by
  have hI := h.below hb
  have hc1 := L.c1
  have hgz := setCell_grown wz ⟨L.bc, 3, none⟩ (.slice (some ⟨g', 0, none⟩) A.length cap')
  have hkp : Kp L (.slice (some ⟨g', 0, none⟩) (A.length + 1) cap') w (wz.setCell ⟨L.bc, 3, none⟩ (.slice (some ⟨g', 0, none⟩) A.length cap')) :=
    ⟨hgz.os.trans hb.os, hgz.tape.trans hb.tape, hgz.output.trans hb.output, Nat.le_trans hb.size hgz.size, fun k hk hc _ _ _ => (hgz.block k (Nat.lt_of_lt_of_le hk hb.size) (by simp; exact hc)).trans (hb.block k hk)⟩
  have hbel : Below L.B0 wz (wz.setCell ⟨L.bc, 3, none⟩ (.slice (some ⟨g', 0, none⟩) A.length cap')) := grown_below hgz L.c0 hI.b0
  have hrow := hI.row
  rw [List.length_append, frC_snoc] at hrow
  have hg1 := (hrow.lt g' rfl).1
  refine ⟨{ blk := setCell_blk hI.blk _, row := (owns_drop hrow (frC_len A)).kept hgz (.inr (by simp [Value.ownBlock]; omega)), ms := hI.ms.same (setCell_far wz _ _ rfl L.cs), mt := hI.mt.same (setCell_far wz _ _ rfl L.ct), sz := Nat.le_trans hI.sz hgz.size, dat := hI.dat.below hbel, frs := fun y hy => (hI.frs y (by simp [hy])).below hbel }, hkp⟩
end
end Go.Proofs.YtommnhglgedflaaGreatDoor
end
