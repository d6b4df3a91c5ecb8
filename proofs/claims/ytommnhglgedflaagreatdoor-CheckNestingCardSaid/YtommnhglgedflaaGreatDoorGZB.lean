/-
  What is parsed is shaped. No program in sight.
  What is parsed is shaped: statements, declarations, threads, programs. No program in sight.
  What is parsed is shaped: declarations, threads, programs. No program in sight.
  A number's text, read by the library's rule, is its value. No program in sight.
  Statements, method by method: what each reads. No program in sight.
-/
import Derived.Test.YtommnhglgedflaaGreatDoorGZA
import Derived.Test.YtommnhglgedflaaGreatDoorGMA
import Derived.Lib.ParseIntB
section
set_option linter.unusedSimpArgs false
set_option linter.unusedVariables false
namespace Go.Proofs.YtommnhglgedflaaGreatDoor.Pz
open Go.RowKit Md Tk
def TsOk (ts : Toks) : Prop := ∀ t ∈ ts, TOk t
theorem TsOk.tail {ts : Toks} (h : TsOk ts) : TsOk ts.tail := fun t ht => h t (List.mem_of_mem_tail ht)
theorem ts_name {ts : Toks} (h : TsOk ts) (hn : isName ts = true) : isNm (nextT ts) = true := by
  cases ts with
  | nil => exact absurd hn (by simp [isName, nextK])
  | cons t r => exact (h t (by simp)).1 (by simpa [isName, nextK] using hn)
theorem ts_num {ts : Toks} (h : TsOk ts) (hn : isNum ts = true) : ((nextT ts).isEmpty = false ∧ (nextT ts).all isD = true) ∧ numOk (nextT ts) = true := by
  cases ts with
  | nil => exact absurd hn (by simp [isNum, nextK])
  | cons t r => exact (h t (by simp)).2.1 (by simpa [isNum, nextK] using hn)
theorem tx_list (l : List UInt8) : (tx l).data.toList = l := by simp [tx]
def shE (x : E) : Prop := shpE x.op x.n x.nm x.kids = true
theorem oneL {x : E} (h : shE x) : shpL (.cons x.op x.n x.nm x.kids .nil) = true := by
  show (shpE x.op x.n x.nm x.kids && shpL .nil) = true
  rw [show shpE x.op x.n x.nm x.kids = true from h]; rfl
theorem twoL {x y : E} (h : shE x) (h' : shE y) : shpL (.cons x.op x.n x.nm x.kids (.cons y.op y.n y.nm y.kids .nil)) = true := by
  show (shpE x.op x.n x.nm x.kids && shpL _) = true
  rw [show shpE x.op x.n x.nm x.kids = true from h, oneL h']; rfl
theorem mk1_sh {a : Int} {x : E} (ha : a = 4 ∨ a = 5) (h : shE x) : shE (mk1 a x) := by
  unfold shE mk1 shpE; rw [oneL h]; rcases ha with rfl | rfl <;> rfl
theorem mk2_sh {a : Int} {x y : E} (h0 : 6 ≤ a) (h1 : a ≤ 18) (h : shE x) (h' : shE y) : shE (mk2 a x y) := by
  unfold shE mk2 shpE; rw [twoL h h']
  have : a = 6 ∨ a = 7 ∨ a = 8 ∨ a = 9 ∨ a = 10 ∨ a = 11 ∨ a = 12 ∨ a = 13 ∨ a = 14 ∨ a = 15 ∨ a = 16 ∨ a = 17 ∨ a = 18 := by omega
  rcases this with rfl | rfl | rfl | rfl | rfl | rfl | rfl | rfl | rfl | rfl | rfl | rfl | rfl <;> rfl
theorem num_sh (n : Nat) : shE ⟨1, (n : Int), ⟨#[]⟩, .nil⟩ := by
  show shpE 1 (n : Int) ⟨#[]⟩ .nil = true
  unfold shpE shp1; rw [decide_eq_false (by omega)]; cases ((n : Int) == 0) <;> rfl
theorem nm_sh {l : List UInt8} (h : isNm l = true) : shE ⟨2, 0, tx l, .nil⟩ := by
  unfold shE shpE shp1 nmOr named; simp [tx_list, h, ExL.len, opsOf, shpL]
theorem ix_sh {l : List UInt8} {x : E} (h : isNm l = true) (hx : shE x) : shE ⟨3, 0, tx l, .cons x.op x.n x.nm x.kids .nil⟩ := by
  unfold shE shpE; rw [oneL hx]; unfold shp1 nmOr named; simp [tx_list, h, ExL.len, opsOf]
theorem binOf_op (x : List UInt8) : (binOf x).1 = 0 ∨ (6 ≤ (binOf x).1 ∧ (binOf x).1 ≤ 18) := by
  unfold binOf
  grind (splits := 30)
theorem opAt_op {lv : Int} {ts : Toks} (h : (opAt lv ts == 0) = false) : 6 ≤ opAt lv ts ∧ opAt lv ts ≤ 18 := by
  unfold opAt at h ⊢
  split at h
  · rename_i hc
    rw [if_pos hc]
    rcases binOf_op (nextT ts) with h0 | h0
    · rw [h0] at h; cases h
    · exact h0
  · cases h
def MOk : M → Prop
  | .lp _ l => shE l
  | _ => True
theorem pe_sh : ∀ (f : Nat) (m : M) (ts : Toks) (e : E) (r : Toks), TsOk ts → MOk m → pe f m ts = .ok e r → shE e ∧ TsOk r
  | 0, m, ts, e, r, _, _, h => by cases m <;> simp [pe] at h
  | f + 1, .bin lv, ts, e, r, hT, _, h => by
    unfold pe at h
    split at h
    · exact pe_sh f .un ts e r hT trivial h
    · split at h
      · cases h
      · rename_i l r' hl
        obtain ⟨h1, h2⟩ := pe_sh f (.bin (lv + 1)) ts l r' hT trivial hl
        exact pe_sh f (.lp lv l) r' e r h2 h1 h
  | f + 1, .lp lv l, ts, e, r, hT, hl, h => by
    unfold pe at h
    split at h
    · simp only [Res.ok.injEq] at h; obtain ⟨rfl, rfl⟩ := h; exact ⟨hl, hT⟩
    · rename_i hop
      have hop' := opAt_op (by simpa using hop : (opAt lv ts == 0) = false)
      split at h
      · cases h
      · rename_i x r' hx
        obtain ⟨h1, h2⟩ := pe_sh f (.bin (lv + 1)) ts.tail x r' hT.tail trivial hx
        split at h
        · simp only [Res.ok.injEq] at h; obtain ⟨rfl, rfl⟩ := h; exact ⟨mk2_sh hop'.1 hop'.2 hl h1, h2⟩
        · exact pe_sh f (.lp lv _) r' e r h2 (mk2_sh hop'.1 hop'.2 hl h1) h
  | f + 1, .un, ts, e, r, hT, _, h => by
    unfold pe at h
    split at h
    · obtain ⟨a, h', rfl⟩ := map_ok h
      obtain ⟨h1, h2⟩ := pe_sh f .un ts.tail a r hT.tail trivial h'
      exact ⟨mk1_sh (.inl rfl) h1, h2⟩
    · split at h
      · obtain ⟨a, h', rfl⟩ := map_ok h
        obtain ⟨h1, h2⟩ := pe_sh f .un ts.tail a r hT.tail trivial h'
        exact ⟨mk1_sh (.inr rfl) h1, h2⟩
      · exact pe_sh f .pr ts e r hT trivial h
  | f + 1, .pr, ts, e, r, hT, _, h => by
    unfold pe at h
    split at h
    · simp only [Res.ok.injEq] at h; obtain ⟨rfl, rfl⟩ := h; exact ⟨num_sh _, hT.tail⟩
    · split at h
      · rename_i hn
        have hnm := ts_name hT hn
        split at h
        · obtain ⟨a, h2, rfl⟩ := map_ok h
          obtain ⟨r', h', -, rfl⟩ := close_ok h2
          obtain ⟨h1, h3⟩ := pe_sh f (.bin 1) ts.tail.tail a r' hT.tail.tail trivial h'
          exact ⟨ix_sh hnm h1, h3.tail⟩
        · simp only [Res.ok.injEq] at h; obtain ⟨rfl, rfl⟩ := h; exact ⟨nm_sh hnm, hT.tail⟩
      · split at h
        · obtain ⟨r', h', -, rfl⟩ := close_ok h
          obtain ⟨h1, h2⟩ := pe_sh f (.bin 1) ts.tail e r' hT.tail trivial h'
          exact ⟨h1, h2.tail⟩
        · cases h
theorem expr_sh {ts r : Toks} {e : E} (hT : TsOk ts) (h : expr ts = .ok e r) : shE e ∧ TsOk r := pe_sh _ (.bin 1) _ _ _ hT trivial h
theorem bind_ok {α β : Type} {x : Res α} {f : α → Toks → Res β} {b : β} {r : Toks} (h : x.bind f = .ok b r) : ∃ a r', x = .ok a r' ∧ f a r' = .ok b r := by
  cases x with
  | ok a r' => exact ⟨a, r', rfl, h⟩
  | no r' => cases h
theorem nameR_ok {ts r : Toks} {s : ByteArray} (hT : TsOk ts) (h : nameR ts = .ok s r) : isNm s.data.toList = true ∧ TsOk r := by
  unfold nameR at h
  split at h
  · rename_i hn
    simp only [Res.ok.injEq] at h; obtain ⟨rfl, rfl⟩ := h
    exact ⟨by rw [tx_list]; exact ts_name hT hn, hT.tail⟩
  · cases h
theorem need_ok {x : List UInt8} {ts r : Toks} {u : Unit} (hT : TsOk ts) (h : need x ts = .ok u r) : TsOk r := by
  unfold need at h
  split at h
  · simp only [Res.ok.injEq] at h; obtain ⟨-, rfl⟩ := h; exact hT.tail
  · cases h
theorem one_sh {h : StH} {b e : StL} (hs : shpS h b e = true) : shpSL (one h b e) = true := by
  show (shpS h b e && shpSL .nil) = true; rw [hs]; rfl
theorem app_sh : ∀ {a b : StL}, shpSL a = true → shpSL b = true → shpSL (app a b) = true
  | .nil, b, _, hb => hb
  | .cons h x y r, b, ha, hb => by
    have ha' : (shpS h x y && shpSL r) = true := ha
    rw [Bool.and_eq_true] at ha'
    show (shpS h x y && shpSL (app r b)) = true
    rw [ha'.1, app_sh ha'.2 hb]; rfl
end Go.Proofs.YtommnhglgedflaaGreatDoor.Pz
end
section
set_option linter.unusedSimpArgs false
set_option linter.unusedVariables false
namespace Go.Proofs.YtommnhglgedflaaGreatDoor.Pz
open Go.RowKit Md Tk
theorem asg_sh {l : Int} {nm : ByteArray} {ts r : Toks} {s : StL} (hn : isNm nm.data.toList = true) (hT : TsOk ts) (h : asg { hd 1 l with nm := nm } ts = .ok s r) : shpSL s = true ∧ TsOk r := by
  unfold asg at h
  obtain ⟨h0, r1, e1, h⟩ := bind_ok h
  have hidx : (h0.op = 1 ∧ h0.nm = nm ∧ h0.arg = ⟨#[]⟩ ∧ h0.idx.len ≤ 1 ∧ shpL h0.idx = true) ∧ TsOk r1 := by
    split at e1
    · obtain ⟨x, e2, rfl⟩ := map_ok e1
      obtain ⟨r', e3, -, rfl⟩ := close_ok e2
      obtain ⟨k1, k2⟩ := expr_sh hT.tail e3
      exact ⟨⟨rfl, rfl, rfl, by simp [ExL.len], oneL k1⟩, k2.tail⟩
    · simp only [Res.ok.injEq] at e1; obtain ⟨rfl, rfl⟩ := e1
      exact ⟨⟨rfl, rfl, rfl, by simp [hd, ExL.len], rfl⟩, hT⟩
  obtain ⟨⟨k1, k2, k3, k4, k5⟩, hT1⟩ := hidx
  obtain ⟨u, r2, e2, h⟩ := bind_ok h
  have hT2 := need_ok hT1 e2
  obtain ⟨r3, e3, -, rfl⟩ := close_ok h
  obtain ⟨x, e4, rfl⟩ := map_ok e3
  obtain ⟨q1, q2⟩ := expr_sh hT2 e4
  refine ⟨one_sh ?_, q2.tail⟩
  have q1' : shpE x.op x.n x.nm x.kids = true := q1
  unfold shpS shpS1 StH.ex
  simp [k1, k2, k3, k4, k5, hn, q1', fO, fN, fA, fI, fX, fB, fE, nmOr, StL.len, shpSL]
theorem stOf_op (x : List UInt8) : (stOf x == 0) = false → 2 ≤ stOf x ∧ stOf x ≤ 15 := by
  intro h
  unfold stOf at h ⊢
  grind (splits := 40)
theorem ps_sh : ∀ (f : Nat) (b : Bool) (ts : Toks) (s : StL) (r : Toks), TsOk ts → ps f b ts = .ok s r → shpSL s = true ∧ TsOk r
  | 0, b, ts, s, r, _, h => by cases b <;> simp [ps] at h
  | f + 1, false, ts, s, r, hT, h => by
    unfold ps at h
    split at h
    · simp only [Res.ok.injEq] at h; obtain ⟨rfl, rfl⟩ := h; exact ⟨rfl, hT.tail⟩
    · split at h
      · cases h
      · rename_i s1 r1 h1
        obtain ⟨k1, k2⟩ := ps_sh f true ts s1 r1 hT h1
        obtain ⟨l, h2, rfl⟩ := map_ok h
        obtain ⟨q1, q2⟩ := ps_sh f false r1 l r k2 h2
        exact ⟨app_sh k1 q1, q2⟩
  | f + 1, true, ts, s, r, hT, h => by
    have hblk : ∀ (ts : Toks) (s : StL) (r : Toks), TsOk ts → (if at' [123] ts then ps f false ts.tail else .no ts) = .ok s r → shpSL s = true ∧ TsOk r := fun ts s r hT h => by
      split at h
      · exact ps_sh f false ts.tail s r hT.tail h
      · cases h
    unfold ps at h
    dsimp only at h
    split at h
    · rename_i hk
      have hn : isName ts = true := by simpa [isName] using hk
      exact asg_sh (by rw [tx_list]; exact ts_name hT hn) hT.tail h
    · split at h
      · split at h
        · cases h
        · rename_i h0
          have hop := stOf_op (nextT ts) (by simpa using h0)
          generalize stOf (nextT ts) = op at *
          split at h
          · -- if
            rename_i h2
            have hop2 : op = 2 := by simpa using h2
            subst hop2
            obtain ⟨x, r1, e1, h⟩ := bind_ok h
            obtain ⟨x1, hT1⟩ := expr_sh hT.tail e1
            obtain ⟨b, r2, e2, h⟩ := bind_ok h
            obtain ⟨b1, hT2⟩ := hblk _ _ _ hT1 e2
            have x1' : shpE x.op x.n x.nm x.kids = true := x1
            split at h
            · obtain ⟨e, e3, rfl⟩ := map_ok h
              obtain ⟨c1, hT3⟩ := hblk _ _ _ hT2.tail e3
              refine ⟨one_sh ?_, hT3⟩
              unfold shpS shpS1 StH.ex hd
              simp [x1', b1, c1, fO, fN, fA, fI, fX, fB, fE, nmOr, StL.len, ExL.len, shpL]
            · simp only [Res.ok.injEq] at h; obtain ⟨rfl, rfl⟩ := h
              refine ⟨one_sh ?_, hT2⟩
              unfold shpS shpS1 StH.ex hd
              simp [x1', b1, fO, fN, fA, fI, fX, fB, fE, nmOr, StL.len, ExL.len, shpL, shpSL]
          · split at h
            · -- while
              rename_i h3
              have hop3 : op = 3 := by simpa using h3
              subst hop3
              obtain ⟨x, r1, e1, h⟩ := bind_ok h
              obtain ⟨x1, hT1⟩ := expr_sh hT.tail e1
              obtain ⟨b, e2, rfl⟩ := map_ok h
              obtain ⟨b1, hT2⟩ := hblk _ _ _ hT1 e2
              have x1' : shpE x.op x.n x.nm x.kids = true := x1
              refine ⟨one_sh ?_, hT2⟩
              unfold shpS shpS1 StH.ex hd
              simp [x1', b1, fO, fN, fA, fI, fX, fB, fE, nmOr, StL.len, ExL.len, shpL, shpSL]
            · split at h
              · -- transaction, atomic
                rename_i h7
                have hop7 : op = 7 ∨ op = 8 := by simpa using h7
                obtain ⟨b, e2, rfl⟩ := map_ok h
                obtain ⟨b1, hT2⟩ := hblk _ _ _ hT.tail e2
                refine ⟨one_sh ?_, hT2⟩
                unfold shpS shpS1 hd
                rcases hop7 with rfl | rfl <;> simp [b1, fO, fN, fA, fI, fX, fB, fE, nmOr, StL.len, ExL.len, shpL, shpSL, zeroX]
              · rename_i h2 h3 h7
                obtain ⟨nm, r1, e1, h⟩ := bind_ok h
                obtain ⟨n1, hT1⟩ := nameR_ok hT.tail e1
                have hne : op ≠ 2 ∧ op ≠ 3 ∧ op ≠ 7 ∧ op ≠ 8 := by
                  refine ⟨fun e => h2 (by simp [e]), fun e => h3 (by simp [e]), fun e => h7 (by simp [e]), fun e => h7 (by simp [e])⟩
                split at h
                · rename_i h4
                  have hop4 : (op = 4 ∨ op = 5) ∨ op = 6 := by simpa using h4
                  obtain ⟨b, e2, rfl⟩ := map_ok h
                  obtain ⟨b1, hT2⟩ := hblk _ _ _ hT1 e2
                  refine ⟨one_sh ?_, hT2⟩
                  unfold shpS shpS1 hd
                  rcases hop4 with (rfl | rfl) | rfl <;> simp [n1, b1, fO, fN, fA, fI, fX, fB, fE, nmOr, StL.len, ExL.len, shpL, shpSL, zeroX]
                · split at h
                  · rename_i h14
                    have hop14 : op = 14 := by simpa using h14
                    subst hop14
                    obtain ⟨r2, e2, -, rfl⟩ := close_ok h
                    obtain ⟨x, e3, rfl⟩ := map_ok e2
                    obtain ⟨x1, hT2⟩ := expr_sh hT1 e3
                    have x1' : shpE x.op x.n x.nm x.kids = true := x1
                    refine ⟨one_sh ?_, hT2.tail⟩
                    unfold shpS shpS1 StH.ex hd
                    simp [n1, x1', fO, fN, fA, fI, fX, fB, fE, nmOr, StL.len, ExL.len, shpL, shpSL]
                  · split at h
                    · rename_i h15
                      have hop15 : op = 15 := by simpa using h15
                      subst hop15
                      obtain ⟨r2, e2, -, rfl⟩ := close_ok h
                      obtain ⟨a, e3, rfl⟩ := map_ok e2
                      obtain ⟨a1, hT2⟩ := nameR_ok hT1 e3
                      refine ⟨one_sh ?_, hT2.tail⟩
                      unfold shpS shpS1 hd
                      simp [n1, a1, fO, fN, fA, fI, fX, fB, fE, nmOr, StL.len, ExL.len, shpL, shpSL, zeroX]
                    · rename_i h4 h14 h15
                      obtain ⟨u, e2, rfl⟩ := map_ok h
                      have hT2 := need_ok hT1 e2
                      refine ⟨one_sh ?_, hT2⟩
                      have : op = 9 ∨ op = 10 ∨ op = 11 ∨ op = 12 ∨ op = 13 := by
                        have h4' : ¬ ((op = 4 ∨ op = 5) ∨ op = 6) := by simpa using h4
                        have h14' : op ≠ 14 := by simpa using h14
                        have h15' : op ≠ 15 := by simpa using h15
                        omega
                      unfold shpS shpS1 hd
                      rcases this with rfl | rfl | rfl | rfl | rfl <;> simp [n1, fO, fN, fA, fI, fX, fB, fE, nmOr, StL.len, ExL.len, shpL, shpSL, zeroX]
      · cases h
end Go.Proofs.YtommnhglgedflaaGreatDoor.Pz
end
section
set_option linter.unusedSimpArgs false
set_option linter.unusedVariables false
namespace Go.Proofs.YtommnhglgedflaaGreatDoor.Pz
open Go.RowKit Md Tk
theorem num_le {ts : Toks} (hT : TsOk ts) (h : isNum ts = true) : (val (nextT ts) : Int) ≤ 9223372036854775807 := by
  have := (ts_num hT h).2
  unfold numOk at this
  have := of_decide_eq_true this
  omega
/-- What a declaration's parts have in common. -/
def DOk (k : Int) (d : De) : Prop := d.kind = k ∧ Tk.isNm d.nm.data.toList = true ∧ (0 ≤ d.size ∧ (d.size = 0 ∨ k = 1)) ∧ (d.init ≠ -9223372036854775808 ∧ (d.init = 0 ∨ (k = 1 ∨ k = 2))) ∧ nmOr d.on (k == 5) = true
theorem dok_sh {k : Int} {d : De} (h1 : 1 ≤ k) (h6 : k ≤ 6) (h : DOk k d) : shpD d = true := by
  obtain ⟨rfl, h2, h3, h4, h5⟩ := h
  unfold shpD
  rw [h2, h5]
  have hi : (d.init != -9223372036854775808) = true := by simpa using h4.1
  simp [h1, h6, h3.1, h3.2, h4.2, hi]
theorem sizeR_ok {d d' : De} {ts r : Toks} (hT : TsOk ts) (hd : DOk 1 d) (h : sizeR d ts = .ok d' r) : DOk 1 d' ∧ TsOk r := by
  unfold sizeR at h
  split at h
  · split at h
    · split at h
      · cases h
      · obtain ⟨u, e, rfl⟩ := map_ok h
        exact ⟨⟨hd.1, hd.2.1, ⟨by show (0 : Int) ≤ (val _ : Nat); omega, .inr rfl⟩, hd.2.2.2⟩, need_ok hT.tail.tail e⟩
    · cases h
  · simp only [Res.ok.injEq] at h; obtain ⟨rfl, rfl⟩ := h; exact ⟨hd, hT⟩
theorem initR_ok {k : Int} {d d' : De} {ts r : Toks} (hk : k = 1 ∨ k = 2) (hT : TsOk ts) (hd : DOk k d) (h : initR d ts = .ok d' r) : DOk k d' ∧ TsOk r := by
  unfold initR at h
  split at h
  · split at h
    · split at h
      · rename_i hn
        have := num_le hT.tail.tail hn
        simp only [Res.ok.injEq] at h; obtain ⟨rfl, rfl⟩ := h
        exact ⟨⟨hd.1, hd.2.1, hd.2.2.1, ⟨by show (-(val _ : Nat) : Int) ≠ _; omega, .inr hk⟩, hd.2.2.2.2⟩, hT.tail.tail.tail⟩
      · cases h
    · split at h
      · rename_i hn
        have := num_le hT.tail hn
        simp only [Res.ok.injEq] at h; obtain ⟨rfl, rfl⟩ := h
        exact ⟨⟨hd.1, hd.2.1, hd.2.2.1, ⟨by show ((val _ : Nat) : Int) ≠ _; omega, .inr hk⟩, hd.2.2.2.2⟩, hT.tail.tail⟩
      · cases h
  · simp only [Res.ok.injEq] at h; obtain ⟨rfl, rfl⟩ := h; exact ⟨hd, hT⟩
theorem dcOf_op (x : List UInt8) : (dcOf x == 0) = false → 1 ≤ dcOf x ∧ dcOf x ≤ 6 := by
  intro h
  unfold dcOf at h ⊢
  grind (splits := 40)
theorem declR_sh {ts r : Toks} {d : De} (hT : TsOk ts) (hd : isDecl ts = true) (h : declR ts = .ok d r) : shpD d = true ∧ TsOk r := by
  unfold declR at h
  dsimp only at h
  have hk := dcOf_op (nextT ts) (by unfold isDecl at hd; rw [Bool.and_eq_true] at hd; simpa using hd.2)
  generalize dcOf (nextT ts) = k at *
  obtain ⟨r1, hcl, -, rfl⟩ := close_ok h
  clear h
  obtain ⟨s, r2, e1, h⟩ := bind_ok hcl
  obtain ⟨hn, hT1⟩ := nameR_ok hT.tail e1
  split at h
  · rename_i h1
    have hk1 : k = 1 := by simpa using h1
    subst hk1
    obtain ⟨d1, r3, e2, h⟩ := bind_ok h
    obtain ⟨q1, hT2⟩ := sizeR_ok hT1 ⟨rfl, hn, ⟨Int.le_refl 0, .inl rfl⟩, ⟨by show (0 : Int) ≠ _; decide, .inl rfl⟩, rfl⟩ e2
    obtain ⟨q2, hT3⟩ := initR_ok (.inl rfl) hT2 q1 h
    exact ⟨dok_sh (by decide) (by decide) q2, hT3.tail⟩
  · split at h
    · rename_i h2
      have hk2 : k = 2 := by simpa using h2
      subst hk2
      obtain ⟨q2, hT3⟩ := initR_ok (.inr rfl) hT1 ⟨rfl, hn, ⟨Int.le_refl 0, .inl rfl⟩, ⟨by show (0 : Int) ≠ _; decide, .inl rfl⟩, rfl⟩ h
      exact ⟨dok_sh (by decide) (by decide) q2, hT3.tail⟩
    · split at h
      · rename_i h5
        have hk5 : k = 5 := by simpa using h5
        subst hk5
        obtain ⟨o, e2, rfl⟩ := map_ok h
        obtain ⟨ho, hT2⟩ := nameR_ok hT1 e2
        exact ⟨dok_sh (k := 5) (by decide) (by decide) ⟨rfl, hn, ⟨Int.le_refl 0, .inl rfl⟩, ⟨by show (0 : Int) ≠ _; decide, .inl rfl⟩, ho⟩, hT2.tail⟩
      · rename_i h1 h2 h5
        simp only [Res.ok.injEq] at h; obtain ⟨rfl, rfl⟩ := h
        refine ⟨dok_sh hk.1 hk.2 ⟨rfl, hn, ⟨Int.le_refl 0, .inl rfl⟩, ⟨by show (0 : Int) ≠ _; decide, .inl rfl⟩, ?_⟩, hT1.tail⟩
        have h5' : (k == 5) = false := by simpa using h5
        rw [h5']; rfl
theorem locsR_ok : ∀ (f : Nat) (ts : Toks) (l : List ByteArray) (r : Toks), TsOk ts → locsR f ts = .ok l r → (∀ s ∈ l, Tk.isNm s.data.toList = true) ∧ TsOk r
  | 0, ts, l, r, _, h => by simp [locsR] at h
  | f + 1, ts, l, r, hT, h => by
    unfold locsR at h
    obtain ⟨s, r1, e1, h⟩ := bind_ok h
    obtain ⟨hn, hT1⟩ := nameR_ok hT e1
    split at h
    · obtain ⟨l', e2, rfl⟩ := map_ok h
      obtain ⟨q1, q2⟩ := locsR_ok f _ _ _ hT1.tail e2
      exact ⟨fun x hx => by
        rcases List.mem_cons.1 hx with rfl | hx
        · exact hn
        · exact q1 x hx, q2⟩
    · simp only [Res.ok.injEq] at h; obtain ⟨rfl, rfl⟩ := h
      exact ⟨fun x hx => by rw [List.mem_singleton.1 hx]; exact hn, hT1⟩
theorem blk_sh {f : Nat} {ts r : Toks} {s : StL} (hT : TsOk ts) (h : blk f ts = .ok s r) : shpSL s = true ∧ TsOk r := by
  unfold blk at h
  split at h
  · exact ps_sh f false ts.tail s r hT.tail h
  · cases h
theorem thrR_sh {ts r : Toks} {t : Th} (hT : TsOk ts) (h : thrR ts = .ok t r) : shpT t = true ∧ TsOk r := by
  unfold thrR at h
  obtain ⟨s, r1, e1, h⟩ := bind_ok h
  obtain ⟨hn, hT1⟩ := nameR_ok hT.tail e1
  obtain ⟨u, r2, e2, h⟩ := bind_ok h
  have hT2 := need_ok hT1 e2
  obtain ⟨l, r3, e3, h⟩ := bind_ok h
  have hl : (∀ s ∈ l, Tk.isNm s.data.toList = true) ∧ TsOk r3 := by
    split at e3
    · simp only [Res.ok.injEq] at e3; obtain ⟨rfl, rfl⟩ := e3
      exact ⟨fun x hx => by simp at hx, hT2.tail⟩
    · obtain ⟨r', e4, -, rfl⟩ := close_ok e3
      obtain ⟨q1, q2⟩ := locsR_ok _ _ _ _ hT2 e4
      exact ⟨q1, q2.tail⟩
  obtain ⟨b, e5, rfl⟩ := map_ok h
  obtain ⟨b1, hT4⟩ := blk_sh hl.2 e5
  refine ⟨?_, hT4⟩
  unfold shpT
  rw [hn, b1, List.all_eq_true.2 (fun x hx => hl.1 x hx)]; rfl
theorem declsR_sh : ∀ (f : Nat) (ts : Toks) (l : List De) (r : Toks), TsOk ts → declsR f ts = .ok l r → l.all shpD = true ∧ TsOk r
  | 0, ts, l, r, hT, h => by simp only [declsR, Res.ok.injEq] at h; obtain ⟨rfl, rfl⟩ := h; exact ⟨rfl, hT⟩
  | f + 1, ts, l, r, hT, h => by
    unfold declsR at h
    split at h
    · rename_i hd
      obtain ⟨d, r1, e1, h⟩ := bind_ok h
      obtain ⟨q1, hT1⟩ := declR_sh hT hd e1
      obtain ⟨l', e2, rfl⟩ := map_ok h
      obtain ⟨q2, hT2⟩ := declsR_sh f r1 l' r hT1 e2
      exact ⟨by rw [List.all_cons, q1, q2]; rfl, hT2⟩
    · simp only [Res.ok.injEq] at h; obtain ⟨rfl, rfl⟩ := h; exact ⟨rfl, hT⟩
theorem thrsR_sh : ∀ (f : Nat) (ts : Toks) (l : List Th) (r : Toks), TsOk ts → thrsR f ts = .ok l r → l.all shpT = true ∧ TsOk r
  | 0, ts, l, r, hT, h => by simp only [thrsR, Res.ok.injEq] at h; obtain ⟨rfl, rfl⟩ := h; exact ⟨rfl, hT⟩
  | f + 1, ts, l, r, hT, h => by
    unfold thrsR at h
    split at h
    · obtain ⟨d, r1, e1, h⟩ := bind_ok h
      obtain ⟨q1, hT1⟩ := thrR_sh hT e1
      obtain ⟨l', e2, rfl⟩ := map_ok h
      obtain ⟨q2, hT2⟩ := thrsR_sh f r1 l' r hT1 e2
      exact ⟨by rw [List.all_cons, q1, q2]; rfl, hT2⟩
    · simp only [Res.ok.injEq] at h; obtain ⟨rfl, rfl⟩ := h; exact ⟨rfl, hT⟩
theorem parse_sh (s : List UInt8) (h : (parse s).2.1 = 0) : shpP (parse s).1 = true ∧ (parse s).2.2 = 0 := by
  unfold parse at h ⊢
  split at h
  · rename_i h0
    rw [if_pos h0]
    have hT : TsOk (scan s).1 := scan_ok s
    generalize (scan s).1 = ts at *
    cases hp : prog ts with
    | no r => rw [hp] at h; cases h
    | ok p rest =>
      rw [hp] at h
      dsimp only at h ⊢
      split at h
      · cases h
      · rename_i hc
        rw [if_neg hc]
        unfold prog at hp
        obtain ⟨ds, r1, e1, hp⟩ := bind_ok hp
        obtain ⟨q1, hT1⟩ := declsR_sh _ _ _ _ hT e1
        obtain ⟨th, e2, rfl⟩ := map_ok hp
        obtain ⟨q2, -⟩ := thrsR_sh _ _ _ _ hT1 e2
        refine ⟨?_, rfl⟩
        unfold shpP
        have hne : th.isEmpty = false := by
          cases hx : th.isEmpty
          · rfl
          · exact absurd (by simp [hx]) hc
        have hlen : decide ((0 : Int) < th.length) = true := decide_eq_true (by
          cases th with
          | nil => cases hne
          | cons a b => simp <;> omega)
        show ((ds.all shpD && th.all shpT) && decide ((0 : Int) < th.length)) = true
        rw [q1, q2, hlen]; rfl
  · rename_i h0
    rw [if_neg h0]
    dsimp only at h
    exact absurd (by exact_mod_cast h) h0
end Go.Proofs.YtommnhglgedflaaGreatDoor.Pz
end
section
namespace Go.Proofs.YtommnhglgedflaaGreatDoor.Pz
open Go.RowKit Md Tk
def stepV (n : Nat) (c : UInt8) : Nat := 10 * n + (c.toNat - 48)
theorem val_fold (l : List UInt8) : val l = l.foldl stepV 0 := rfl
theorem fold_ge : ∀ (l : List UInt8) (a : Nat), a ≤ l.foldl stepV a
  | [], a => Nat.le_refl a
  | c :: r, a => Nat.le_trans (by unfold stepV; omega) (fold_ge r (stepV a c))
theorem isD_nat {c : UInt8} (h : isD c = true) : 48 ≤ c.toNat ∧ c.toNat ≤ 57 := by
  unfold isD digI at h
  rw [Bool.and_eq_true] at h
  have h1 := of_decide_eq_true h.1
  have h2 := of_decide_eq_true h.2
  omega
theorem um_ok {M : Nat} (hM : 9223372036854775807 ≤ M) : ∀ (l : List UInt8) (a : Nat), l.all isD = true → l.foldl stepV a ≤ 9223372036854775807 → Lib.parseUintM M a l = .ok (l.foldl stepV a)
  | [], a, _, _ => rfl
  | c :: r, a, h, hv => by
    rw [List.all_cons, Bool.and_eq_true] at h
    have hd := isD_nat h.1
    have hv' : r.foldl stepV (stepV a c) ≤ 9223372036854775807 := hv
    have hg := fold_ge r (stepV a c)
    have ih := um_ok hM r (stepV a c) h.2 hv'
    have hs : stepV a c = a * 10 + (c.toNat - 48) := by unfold stepV; omega
    unfold Lib.parseUintM
    rw [if_pos hd, if_neg (by omega), if_neg (by omega), ← hs, ih]
    rfl
theorem parse_num {l : List UInt8} (h1 : l.isEmpty = false) (h2 : l.all isD = true) (h3 : numOk l = true) : Lib.parseIntB 64 l = .ok (val l : Int) := by
  have hv : val l ≤ 9223372036854775807 := of_decide_eq_true h3
  cases l with
  | nil => cases h1
  | cons c r =>
    have hd := isD_nat (by rw [List.all_cons, Bool.and_eq_true] at h2; exact h2.1)
    have hu : Lib.parseUintB 64 (c :: r) = .ok (val (c :: r)) := by
      unfold Lib.parseUintB
      rw [if_neg (by simp)]
      exact um_ok (by decide) (c :: r) 0 h2 hv
    unfold Lib.parseIntB
    dsimp only
    rw [if_neg (by omega), hu]
    dsimp only
    rw [if_neg (by rintro ⟨-, h⟩; have : (2 : Nat) ^ (64 - 1) = 9223372036854775808 := by decide
                   omega), if_neg (by rintro ⟨h, -⟩; omega), if_neg (by omega)]
end Go.Proofs.YtommnhglgedflaaGreatDoor.Pz
end
section
namespace Go.Proofs.YtommnhglgedflaaGreatDoor.Pz
open Go.RowKit Md Tk
/-- A statement with the two lists inside it. -/
structure Sx where
  h : StH
  b : StL
  e : StL
def toL (y : Sx) : StL := one y.h y.b y.e
theorem map_map' {α β γ : Type} (x : Res α) (f : α → β) (g : β → γ) : (x.map f).map g = x.map (fun a => g (f a)) := by cases x <;> rfl
theorem bind_map {α β γ : Type} (x : Res α) (f : α → Toks → Res β) (g : β → γ) : (x.bind f).map g = x.bind (fun a r => (f a r).map g) := by cases x <;> rfl
theorem close_map {α β : Type} (x : Res α) (y : List UInt8) (g : α → β) : (x.close y).map g = (x.map g).close y := by
  cases x with
  | ok a r => show (ite _ _ _ : Res α).map g = ite _ _ _; split <;> rfl
  | no r => rfl
theorem bind_eq {α β : Type} {x : Res α} {f g : α → Toks → Res β} (h : ∀ a r, f a r = g a r) : x.bind f = x.bind g := by
  cases x with
  | ok a r => exact h a r
  | no r => rfl
def plainX (f : Nat) (h : StH) (r : Toks) : Res Sx := (blk f r).map fun b => ⟨h, b, .nil⟩
def namedX (h : StH) (r : Toks) : Res Sx := (nameR r).bind fun s r => (need [59] r).map fun _ => ⟨{ h with nm := s }, .nil, .nil⟩
def namedBX (f : Nat) (h : StH) (r : Toks) : Res Sx := (nameR r).bind fun s r => plainX f { h with nm := s } r
def setX (h : StH) (r : Toks) : Res Sx := (nameR r).bind fun s r => ((expr r).map fun x => (⟨StH.ex { h with nm := s } x, .nil, .nil⟩ : Sx)).close [59]
def getX (h : StH) (r : Toks) : Res Sx := (nameR r).bind fun s r => ((nameR r).map fun a => (⟨{ h with nm := s, arg := a }, .nil, .nil⟩ : Sx)).close [59]
def loopX (f : Nat) (h : StH) (r : Toks) : Res Sx := (expr r).bind fun x r => plainX f (StH.ex h x) r
def condX (f : Nat) (h : StH) (r : Toks) : Res Sx := (loopX f h r).bind fun y r => if at' [101, 108, 115, 101] r then (blk f r.tail).map fun e => ⟨y.h, y.b, e⟩ else .ok y r
def asgX (h : StH) (r : Toks) : Res Sx :=
  (if at' [91] r then ((expr r.tail).close [93]).map (fun x => { h with idx := .cons x.op x.n x.nm x.kids .nil }) else .ok h r).bind fun h r =>
    (need [61] r).bind fun _ r => (((expr r).map fun x => (⟨StH.ex h x, .nil, .nil⟩ : Sx)).close [59])
def asgNX (h : StH) (r : Toks) : Res Sx := (nameR r).bind fun s r => asgX { h with nm := s } r
theorem asg_x (h : StH) (r : Toks) : asg h r = (asgX h r).map toL := by
  unfold asg asgX
  rw [bind_map]
  refine bind_eq (fun h r => ?_)
  rw [bind_map]
  refine bind_eq (fun _ r => ?_)
  rw [close_map, map_map']; rfl
/-- What a keyword's method reads. -/
def kwX (f : Nat) (op : Int) (h : StH) (r : Toks) : Res Sx :=
  if op == 2 then condX f h r else if op == 3 then loopX f h r else if op == 7 || op == 8 then plainX f h r
  else if op == 4 || op == 5 || op == 6 then namedBX f h r else if op == 14 then setX h r else if op == 15 then getX h r else namedX h r
theorem ps_name {f : Nat} {ts : Toks} (h : (nextK ts == 1) = true) : ps (f + 1) true ts = (asgNX (hd 1 (nextL ts)) ts).map toL := by
  conv => lhs; unfold ps
  dsimp only
  rw [if_pos h]
  have : nameR ts = .ok (tx (nextT ts)) ts.tail := by unfold nameR; rw [if_pos (show isName ts = true from h)]
  unfold asgNX
  rw [this]
  exact asg_x _ _
theorem ps_other {f : Nat} {ts : Toks} (h : (nextK ts == 1) = false) (h3 : (nextK ts == 3) = false) : ps (f + 1) true ts = .no ts := by
  conv => lhs; unfold ps
  dsimp only
  rw [if_neg (by rw [h]; decide), if_neg (by rw [h3]; decide)]
theorem ps_zero {f : Nat} {ts : Toks} (h : (nextK ts == 1) = false) (h3 : (nextK ts == 3) = true) (h0 : (stOf (nextT ts) == 0) = true) : ps (f + 1) true ts = .no ts := by
  conv => lhs; unfold ps
  dsimp only
  rw [if_neg (by rw [h]; decide), if_pos h3, if_pos h0]
theorem ps_kw {f : Nat} {ts : Toks} (h : (nextK ts == 1) = false) (h3 : (nextK ts == 3) = true) (h0 : (stOf (nextT ts) == 0) = false) : ps (f + 1) true ts = (kwX f (stOf (nextT ts)) (hd (stOf (nextT ts)) (nextL ts)) ts.tail).map toL := by
  conv => lhs; unfold ps
  dsimp only
  rw [if_neg (by rw [h]; decide), if_pos h3, if_neg (by rw [h0]; decide)]
  unfold kwX
  by_cases h2 : (stOf (nextT ts) == 2) = true
  · rw [if_pos h2, if_pos h2]
    unfold condX loopX
    rw [bind_map]
    cases expr ts.tail with
    | no r => rfl
    | ok x r =>
      show Res.bind (if at' [123] r = true then ps f false r.tail else Res.no r) _ = Res.bind (Res.map _ (if at' [123] r = true then ps f false r.tail else Res.no r)) _
      cases (if at' [123] r = true then ps f false r.tail else Res.no r) with
      | no r => rfl
      | ok b r2 =>
        show (if at' [101, 108, 115, 101] r2 = true then _ else _) = (if at' [101, 108, 115, 101] r2 = true then _ else _ : Res Sx).map toL
        split
        · rw [map_map']; rfl
        · rfl
  · rw [if_neg h2, if_neg h2]
    by_cases e3 : (stOf (nextT ts) == 3) = true
    · rw [if_pos e3, if_pos e3]
      unfold loopX plainX
      rw [bind_map]
      refine bind_eq (fun x r => ?_)
      rw [map_map']; rfl
    · rw [if_neg e3, if_neg e3]
      by_cases e7 : (stOf (nextT ts) == 7 || stOf (nextT ts) == 8) = true
      · rw [if_pos e7, if_pos e7]
        unfold plainX
        rw [map_map']; rfl
      · rw [if_neg e7, if_neg e7]
        generalize stOf (nextT ts) = op
        by_cases e4 : (op == 4 || op == 5 || op == 6) = true
        · rw [if_pos e4]
          unfold namedBX plainX
          rw [bind_map]
          refine bind_eq (fun x r => ?_)
          rw [map_map']
          rw [if_pos e4]; rfl
        · rw [if_neg e4]
          by_cases e14 : (op == 14) = true
          · rw [if_pos e14]
            unfold setX
            rw [bind_map]
            refine bind_eq (fun x r => ?_)
            rw [close_map, map_map']
            rw [if_neg e4, if_pos e14]; rfl
          · rw [if_neg e14]
            by_cases e15 : (op == 15) = true
            · rw [if_pos e15]
              unfold getX
              rw [bind_map]
              refine bind_eq (fun x r => ?_)
              rw [close_map, map_map']
              rw [if_neg e4, if_neg e14, if_pos e15]; rfl
            · rw [if_neg e15]
              unfold namedX
              rw [bind_map]
              refine bind_eq (fun x r => ?_)
              rw [map_map']
              rw [if_neg e4, if_neg e14, if_neg e15]; rfl
end Go.Proofs.YtommnhglgedflaaGreatDoor.Pz
end
