/-
  The walk of the law ParsePrecedence.
-/
import Derived.Test.YtommnhglgedflaaDoorGRF
import Derived.Test.YtommnhglgedflaaDoorGPzPrec
import Derived.Test.YtommnhglgedflaaDoorGMdSmE
import Derived.Test.YtommnhglgedflaaDoorGMB
import Derived.Test.YtommnhglgedflaaDoorGRB
import Derived.OpenShut
set_option linter.unusedSimpArgs false
set_option linter.unusedVariables false
namespace Go.Proofs.YtommnhglgedflaaDoor
open Go.RowKit
open Md Pz
set_option maxHeartbeats 1000000 in
theorem signL_any (n : Int) (w : World) (h0 : 0 ≤ n) (h1 : n ≤ 255) :
    Calls Tryd.prog 6 #[.int .u8 n] w fun e w' => e = .returned (.tuple #[.string (tx (sgT (n % 6).toNat)), .int .i64 (sgO (n % 6).toNat), .int .i64 (sgL (n % 6).toNat)]) ∧ w = w' := by
  have hk : n % 6 = 0 ∨ n % 6 = 1 ∨ n % 6 = 2 ∨ n % 6 = 3 ∨ n % 6 = 4 ∨ n % 6 = 5 := by omega
  rcases hk with hk | hk | hk | hk | hk | hk
  all_goals
    rw [hk]
    go_enter Tryd.func6, Tryd.ntmps6
    go_wp2
    exact bodyPost_ret (v := .tuple #[.string _, .int .i64 _, .int .i64 _]) (by simp [results, Tryd.results6, go_sem]; exact ⟨rfl, rfl, rfl⟩) rfl ⟨rfl, rfl⟩
theorem prec_text (s t : List UInt8) : ((((⟨#[97, 32]⟩ : ByteArray) ++ tx s) ++ ⟨#[32, 98, 32]⟩) ++ tx t) ++ ⟨#[32, 99]⟩ = tx (prT s t) := by
  apply bytes_eq
  simp [prT, tx]
set_option maxHeartbeats 4000000 in
set_option maxRecDepth 100000 in
theorem ParsePrecedence_walk (m : Int) (wm : (Lit.int .u8 m).wf = true) (n : Int) (wn : (Lit.int .u8 n).wf = true) (w : World) (hkw : KwLaid w) :
    Calls Tryd.prog 3 #[.int .u8 m, .int .u8 n] w fun e w' => e = .returned (.bool true) ∧ Below w.heap.size w w' := by
  have hm0 := bounds_u8 wm
  have hn0 := bounds_u8 wn
  clear wm wn
  have HKW := Lib.hid hkw
  have HM := Lib.hid (fun w => signL_any m w hm0.1 hm0.2)
  have HN := Lib.hid (fun w => signL_any n w hn0.1 hn0.2)
  have HPR := Lib.hid (prec_all (k := (m % 6).toNat) (j := (n % 6).toNat) (by omega) (by omega))
  have HS1 := Lib.hid (sg_size (m % 6).toNat)
  have HS2 := Lib.hid (sg_size (n % 6).toNat)
  have HL1 := Lib.hid (sg_lev (m % 6).toNat)
  have HL2 := Lib.hid (sg_lev (n % 6).toNat)
  have HO1 := Lib.hid (sg_op (m % 6).toNat)
  have HO2 := Lib.hid (sg_op (n % 6).toNat)
  generalize sgT (m % 6).toNat = s at *
  generalize sgT (n % 6).toNat = t at *
  generalize sgO (m % 6).toNat = op at *
  generalize sgO (n % 6).toNat = oq at *
  generalize sgL (m % 6).toNat = x at *
  generalize sgL (n % 6).toNat = y at *
  clear hm0 hn0 hkw
  have hs1 : (tx s).size ≤ 2 := HS1.out
  have hs2 : (tx t).size ≤ 2 := HS2.out
  go_enter Tryd.func3, Tryd.ntmps3
  go_wp2_with fail
  refine (HM.out _).mono ?_
  rintro e w1 ⟨rfl, rfl⟩
  go_wp2_with fail
  refine (HN.out _).mono ?_
  rintro e w1 ⟨rfl, rfl⟩
  go_wp2_with fail
  have HX : Hid (∀ w, KwLaid w → Calls Tryd.prog 7 #[.string (tx (prT s t))] w (ExpE w (prW op oq x y, 0, 0))) := Lib.hid (fun w h => by
    have h2 := Expr_any (tx (prT s t)) w h (by
      have h1 := HS1.out
      have h2 := HS2.out
      have : (tx (prT s t)).size = (prT s t).length := by simp [tx, ByteArray.size]
      rw [this]; simp only [prT, List.length_append, List.length_cons, List.length_nil]; unfold maxLen; omega)
    rw [show (tx (prT s t)).data.toList = prT s t by simp [tx], HPR.out] at h2
    exact h2)
  rw [prec_text]
  refine (HX.out _ HKW.out).mono ?_
  rintro e w1 ⟨ao, cap, rfl, hok, hat, hb⟩
  have HB := Lib.hid hb
  have HAT := Lib.hid (And.intro hok hat)
  clear hok hat hb HX HPR HM HN hs1 hs2 HS1 HS2
  obtain ⟨ex, HEX⟩ : ∃ ex, Hid (prW op oq x y = ex) := ⟨_, Lib.hid rfl⟩
  rw [HEX.out] at HAT ⊢
  unfold exV
  go_upto_region 4 with fail
  have HE := Lib.hid ((Sit.start w1).box4 (n := w1.heap.size) rfl (.int .i64 ex.op) (.int .i64 ex.n) (.string ex.nm) (.slice ao ex.kids.len cap) 26)
  generalize hW : World.alloc w1 _ = W1
  rw [hW] at HE
  clear hW
  go_upto_region 5 with fail
  have HE2 := Lib.hid (((HE.out.box4 (n := W1.heap.size) rfl (.int .i64 2) (.int .i64 0) (.string ⟨#[97]⟩) (.slice none 0 0) 26).box4 (n := W1.heap.size + 1) (by simp) (.int .i64 2) (.int .i64 0) (.string ⟨#[98]⟩) (.slice none 0 0) 26).box4 (n := W1.heap.size + 1 + 1) (by simp) (.int .i64 2) (.int .i64 0) (.string ⟨#[99]⟩) (.slice none 0 0) 26)
  obtain ⟨ga, hga⟩ : ∃ g, W1.heap.size = g := ⟨_, rfl⟩
  generalize hW : World.alloc (World.alloc (World.alloc W1 _) _) _ = W2
  rw [hW] at HE2
  rw [hga] at HE2 ⊢
  clear hW HE hga
  obtain ⟨-, ⟨-, c0⟩, ⟨-, c1⟩, ⟨-, c2⟩, ⟨-, c3⟩, ⟨-, c4⟩, ⟨-, c5⟩, ⟨-, c6⟩, ⟨-, c7⟩, ⟨-, c8⟩, ⟨-, c9⟩, ⟨-, c10⟩, ⟨-, c11⟩, -⟩ := HE2.out
  have hq2 : ga + 1 + 1 < W2.heap.size := HE2.out.2.1.1
  have hq1 : ga + 1 < W2.heap.size := by omega
  have hq0 : ga < W2.heap.size := by omega
  have hqe : w1.heap.size < W2.heap.size := HE2.out.2.2.2.2.2.2.2.2.2.2.2.2.2.1.1
  go_upto_region 6 with fail
  generalize hW : World.alloc (World.alloc (World.alloc W2 _) _) _ = W3
  have HB3 : Hid (Below W2.heap.size W2 W3) := Lib.hid (by rw [← hW]; exact ((alloc_below W2 _).alloc (by simp) _).alloc (by simp <;> omega) _)
  have HS1 : Hid (W3.heap[W2.heap.size]? = some (.cells (exC 2 0 ⟨#[97]⟩ .nil none 0 ++ exC 2 0 ⟨#[98]⟩ .nil none 0).toArray 26 (0, 0))) := Lib.hid (by
    rw [← hW, heap_alloc_old _ _ (by simp <;> omega), heap_alloc_old _ _ (by simp <;> omega)]; exact heap_alloc_new _ _)
  have HS2 : Hid (W3.heap[W2.heap.size + 1]? = some (.cells (exC op 0 ⟨#[]⟩ (.cons 2 0 ⟨#[97]⟩ .nil (.cons 2 0 ⟨#[98]⟩ .nil .nil)) (some ⟨W2.heap.size, 0, none⟩) 2 ++ exC 2 0 ⟨#[99]⟩ .nil none 0).toArray 26 (0, 0))) := Lib.hid (by
    rw [← hW, heap_alloc_old _ _ (by simp <;> omega)]
    have := heap_alloc_new (W2.alloc (.cells (exC 2 0 ⟨#[97]⟩ .nil none 0 ++ exC 2 0 ⟨#[98]⟩ .nil none 0).toArray 26)) (.cells (exC op 0 ⟨#[]⟩ (.cons 2 0 ⟨#[97]⟩ .nil (.cons 2 0 ⟨#[98]⟩ .nil .nil)) (some ⟨W2.heap.size, 0, none⟩) 2 ++ exC 2 0 ⟨#[99]⟩ .nil none 0).toArray 26)
    rw [show (W2.alloc (.cells (exC 2 0 ⟨#[97]⟩ .nil none 0 ++ exC 2 0 ⟨#[98]⟩ .nil none 0).toArray 26)).heap.size = W2.heap.size + 1 by simp] at this
    exact this)
  have HS3 : Hid (W3.heap[W2.heap.size + 1 + 1]? = some (.cells (exC oq 0 ⟨#[]⟩ (.cons op 0 ⟨#[]⟩ (.cons 2 0 ⟨#[97]⟩ .nil (.cons 2 0 ⟨#[98]⟩ .nil .nil)) (.cons 2 0 ⟨#[99]⟩ .nil .nil)) (some ⟨W2.heap.size + 1, 0, none⟩) 2).toArray 26 (0, 0))) := Lib.hid (by
    rw [← hW]
    have := heap_alloc_new ((W2.alloc (.cells (exC 2 0 ⟨#[97]⟩ .nil none 0 ++ exC 2 0 ⟨#[98]⟩ .nil none 0).toArray 26)).alloc (.cells (exC op 0 ⟨#[]⟩ (.cons 2 0 ⟨#[97]⟩ .nil (.cons 2 0 ⟨#[98]⟩ .nil .nil)) (some ⟨W2.heap.size, 0, none⟩) 2 ++ exC 2 0 ⟨#[99]⟩ .nil none 0).toArray 26)) (.cells (exC oq 0 ⟨#[]⟩ (.cons op 0 ⟨#[]⟩ (.cons 2 0 ⟨#[97]⟩ .nil (.cons 2 0 ⟨#[98]⟩ .nil .nil)) (.cons 2 0 ⟨#[99]⟩ .nil .nil)) (some ⟨W2.heap.size + 1, 0, none⟩) 2).toArray 26)
    rw [show ((W2.alloc (.cells (exC 2 0 ⟨#[97]⟩ .nil none 0 ++ exC 2 0 ⟨#[98]⟩ .nil none 0).toArray 26)).alloc (.cells (exC op 0 ⟨#[]⟩ (.cons 2 0 ⟨#[97]⟩ .nil (.cons 2 0 ⟨#[98]⟩ .nil .nil)) (some ⟨W2.heap.size, 0, none⟩) 2 ++ exC 2 0 ⟨#[99]⟩ .nil none 0).toArray 26)).heap.size = W2.heap.size + 1 + 1 by simp] at this
    exact this)
  have hi2 : I64 2 := by unfold I64; decide
  have hi0 : I64 0 := by unfold I64; decide
  have hiop : I64 op := by have := HO1.out; unfold I64; omega
  have hioq : I64 oq := by have := HO2.out; unfold I64; omega
  have HOK : Hid (ExOk 2 0 ⟨#[97]⟩ .nil ∧ ExOk 2 0 ⟨#[98]⟩ .nil ∧ ExOk 2 0 ⟨#[99]⟩ .nil) := Lib.hid ⟨⟨hi2, hi0, by unfold maxLen; decide, Nat.zero_le _⟩, ⟨hi2, hi0, by unfold maxLen; decide, Nat.zero_le _⟩, ⟨hi2, hi0, by unfold maxLen; decide, Nat.zero_le _⟩⟩
  have HIO := Lib.hid (And.intro hiop hioq)
  clear hi2 hi0 hiop hioq
  have HE3 := Lib.hid (HE2.out.next HB3.out)
  have HQ := Lib.hid (And.intro hq0 (And.intro hq1 (And.intro hq2 hqe)))
  clear hW c0 c1 c2 c3 c4 c5 c6 c7 c8 c9 c10 c11 hq0 hq1 hq2 hqe
  obtain ⟨g, hg⟩ : ∃ g, W2.heap.size = g := ⟨_, rfl⟩
  have HG3 : Hid (g + 1 + 1 < W3.heap.size) := Lib.hid (by rw [← hg]; exact (Array.getElem?_eq_some_iff.1 HS3.out).1)
  rw [hg] at HS1 HS2 HS3 HQ ⊢
  clear hg
  by_cases hxy : x < y
  · have hq : decide (x < y) = true := decide_eq_true hxy
    have HEX' : Hid (ex = mk2 op (nmE [97]) (mk2 oq (nmE [98]) (nmE [99]))) := Lib.hid (by rw [← HEX.out]; unfold prW; rw [if_pos hq])
    obtain ⟨-, ⟨-, c0⟩, ⟨-, c1⟩, ⟨-, c2⟩, ⟨-, c3⟩, ⟨-, c4⟩, ⟨-, c5⟩, ⟨-, c6⟩, ⟨-, c7⟩, ⟨-, c8⟩, ⟨-, c9⟩, ⟨-, c10⟩, ⟨-, c11⟩, -⟩ := HE3.out
    have u0 : W3.cell? ⟨g + 1 + 1, 0, none⟩ = some (.int .i64 oq) := cellb HS3.out rfl
    have u1 : W3.cell? ⟨g + 1 + 1, 1, none⟩ = some (.int .i64 0) := cellb HS3.out rfl
    have u2 : W3.cell? ⟨g + 1 + 1, 2, none⟩ = some (.string ⟨#[]⟩) := cellb HS3.out rfl
    have u3 : W3.cell? ⟨g + 1 + 1, 3, none⟩ = some (.slice (some ⟨g + 1, 0, none⟩) 2 2) := cellb HS3.out rfl
    have f0 : W3.frozen? ⟨g + 1 + 1, 0, none⟩ = false := free_blk HS3.out
    have f1 : W3.frozen? ⟨g + 1 + 1, 1, none⟩ = false := free_blk HS3.out
    have f2 : W3.frozen? ⟨g + 1 + 1, 2, none⟩ = false := free_blk HS3.out
    have f3 : W3.frozen? ⟨g + 1 + 1, 3, none⟩ = false := free_blk HS3.out
    have hg3 := HG3.out
    have hg1 : g + 1 < W3.heap.size := by omega
    have hgz : g < W3.heap.size := by omega
    have hq0 : ga < W3.heap.size := by have := HQ.out.1; have := HG3.out; omega
    have hq1 : ga + 1 < W3.heap.size := by have := HQ.out.2.1; have := HG3.out; omega
    have hq2 : ga + 1 + 1 < W3.heap.size := by have := HQ.out.2.2.1; have := HG3.out; omega
    go_upto_region 8 with fail
    generalize hW : World.alloc (World.alloc _ _) _ = W5
    obtain ⟨S, hS⟩ : ∃ S, S = set4 W3 (g + 1 + 1) (.int .i64 op) (.int .i64 0) (.string ⟨#[]⟩) (.slice (some ⟨W3.heap.size + 1, 0, none⟩) 2 2) := ⟨_, rfl⟩
    have hW : (S.alloc (.cells (exC 2 0 ⟨#[98]⟩ .nil none 0 ++ exC 2 0 ⟨#[99]⟩ .nil none 0).toArray 26)).alloc (.cells (exC 2 0 ⟨#[97]⟩ .nil none 0 ++ exC oq 0 ⟨#[]⟩ (.cons 2 0 ⟨#[98]⟩ .nil (.cons 2 0 ⟨#[99]⟩ .nil .nil)) (some ⟨W3.heap.size, 0, none⟩) 2).toArray 26) = W5 := by rw [hS]; exact hW
    have HSZ : S.heap.size = W3.heap.size := by rw [hS]; exact set4_size _ _ _ _ _ _
    have HSB : S.heap[g + 1 + 1]? = some (.cells #[.int .i64 op, .int .i64 0, .string ⟨#[]⟩, .slice (some ⟨W3.heap.size + 1, 0, none⟩) 2 2] 26 (0, 0)) := by rw [hS]; exact set4_blk HS3.out
    have HSL : Below w1.heap.size w1 S := by
      have hle : w1.heap.size ≤ g + 1 + 1 := by have := HQ.out.2.2.2; omega
      rw [hS]; exact below_set (below_set (below_set (below_set HE3.out.1 ⟨g + 1 + 1, 0, none⟩ _ hle) ⟨g + 1 + 1, 1, none⟩ _ hle) ⟨g + 1 + 1, 2, none⟩ _ hle) ⟨g + 1 + 1, 3, none⟩ _ hle
    have HB5 : Hid (Below w1.heap.size w1 W5) := Lib.hid (by rw [← hW]; exact (HSL.alloc HSL.size _).alloc (by simp; have := HSL.size; omega) _)
    have HT1 : Hid (W5.heap[W3.heap.size]? = some (.cells (exC 2 0 ⟨#[98]⟩ .nil none 0 ++ exC 2 0 ⟨#[99]⟩ .nil none 0).toArray 26 (0, 0))) := Lib.hid (by
      rw [← hW, heap_alloc_old _ _ (by simp; omega), ← HSZ]; exact heap_alloc_new _ _)
    have HT2 : Hid (W5.heap[W3.heap.size + 1]? = some (.cells (exC 2 0 ⟨#[97]⟩ .nil none 0 ++ exC oq 0 ⟨#[]⟩ (.cons 2 0 ⟨#[98]⟩ .nil (.cons 2 0 ⟨#[99]⟩ .nil .nil)) (some ⟨W3.heap.size, 0, none⟩) 2).toArray 26 (0, 0))) := Lib.hid (by
      rw [← hW]
      have := heap_alloc_new (S.alloc (.cells (exC 2 0 ⟨#[98]⟩ .nil none 0 ++ exC 2 0 ⟨#[99]⟩ .nil none 0).toArray 26)) (.cells (exC 2 0 ⟨#[97]⟩ .nil none 0 ++ exC oq 0 ⟨#[]⟩ (.cons 2 0 ⟨#[98]⟩ .nil (.cons 2 0 ⟨#[99]⟩ .nil .nil)) (some ⟨W3.heap.size, 0, none⟩) 2).toArray 26)
      rw [show (S.alloc (.cells (exC 2 0 ⟨#[98]⟩ .nil none 0 ++ exC 2 0 ⟨#[99]⟩ .nil none 0).toArray 26)).heap.size = W3.heap.size + 1 by simp [HSZ]] at this
      exact this)
    have HT3 : Hid (W5.heap[g + 1 + 1]? = some (.cells #[.int .i64 op, .int .i64 0, .string ⟨#[]⟩, .slice (some ⟨W3.heap.size + 1, 0, none⟩) 2 2] 26 (0, 0))) := Lib.hid (by
      rw [← hW, heap_alloc_old _ _ (by simp; omega), heap_alloc_old _ _ (by omega)]; exact HSB)
    have HT4 : Hid (∀ j u, W3.cell? ⟨w1.heap.size, j, none⟩ = some u → W5.cell? ⟨w1.heap.size, j, none⟩ = some u) := Lib.hid (fun j u hu => by
      have hl : w1.heap.size < W3.heap.size := by have := HQ.out.2.2.2; omega
      refine (World.cell?_of_block (a := ⟨w1.heap.size, j, none⟩) ?_).trans hu
      show W5.heap[w1.heap.size]? = W3.heap[w1.heap.size]?
      rw [← hW, heap_alloc_old _ _ (by simp; omega), heap_alloc_old _ _ (by omega), hS]
      exact set4_far W3 _ _ _ _ (by have := HQ.out.2.2.2; omega))
    have HE4 := Lib.hid HE3.out.2
    clear hW hS HSZ HSB HSL c0 c1 c2 c3 c4 c5 c6 c7 c8 c9 c10 c11 f0 f1 f2 f3 u0 u1 u2 u3 hg3 hg1 hgz hq0 hq1 hq2
    have z0 := HT4.out _ _ HE4.out.2.2.2.2.2.2.2.2.2.2.2.2.1.2
    have z1 := HT4.out _ _ HE4.out.2.2.2.2.2.2.2.2.2.2.2.2.2.1.2
    have z2 := HT4.out _ _ HE4.out.2.2.2.2.2.2.2.2.2.2.2.2.2.2.1.2
    have z3 := HT4.out _ _ HE4.out.2.2.2.2.2.2.2.2.2.2.2.2.2.2.2.1.2
    have u0 : W5.cell? ⟨g + 1 + 1, 0, none⟩ = some (.int .i64 op) := cellb HT3.out rfl
    have u1 : W5.cell? ⟨g + 1 + 1, 1, none⟩ = some (.int .i64 0) := cellb HT3.out rfl
    have u2 : W5.cell? ⟨g + 1 + 1, 2, none⟩ = some (.string ⟨#[]⟩) := cellb HT3.out rfl
    have u3 : W5.cell? ⟨g + 1 + 1, 3, none⟩ = some (.slice (some ⟨W3.heap.size + 1, 0, none⟩) 2 2) := cellb HT3.out rfl
    have HAT5 : Hid (ex.kids.At W5 W5.heap.size ao 0) := Lib.hid (HAT.out.2.same HB5.out)
    have HWT : Hid ((mk2 op (nmE [97]) (mk2 oq (nmE [98]) (nmE [99]))).kids.At W5 W5.heap.size (some ⟨W3.heap.size + 1, 0, none⟩) 0) := Lib.hid (stay_two (B := 0) HT2.out (Nat.zero_le _) HOK.out.1 (fun _ _ => trivial) ⟨HIO.out.2, by unfold I64; decide, by unfold maxLen; decide, by simp [ExL.len, maxLen]⟩ (stay_two (B := 0) HT1.out (Nat.zero_le _) HOK.out.2.1 (fun _ _ => trivial) HOK.out.2.2 (fun _ _ => trivial))).now
    go_wp2_with fail
    have e := HEX'.out
    subst e
    refine (SameExpr_any _ _ _ _ _ ao cap (some ⟨W3.heap.size + 1, 0, none⟩) 2 HAT.out.1 HAT5.out HWT.out).mono ?_
    rintro e w5 ⟨rfl, hb5⟩
    go_wp2_with fail
    go_ret
    exact ⟨rfl, HB.out.trans ((HB5.out.trans (hb5.mono HB5.out.size)).mono HB.out.size)⟩
  · have hq : decide (x < y) = false := decide_eq_false hxy
    have HEX' : Hid (ex = mk2 oq (mk2 op (nmE [97]) (nmE [98])) (nmE [99])) := Lib.hid (by rw [← HEX.out]; unfold prW; rw [if_neg (by rw [hq]; decide)])
    obtain ⟨-, ⟨-, c0⟩, ⟨-, c1⟩, ⟨-, c2⟩, ⟨-, c3⟩, ⟨-, c4⟩, ⟨-, c5⟩, ⟨-, c6⟩, ⟨-, c7⟩, ⟨-, c8⟩, ⟨-, c9⟩, ⟨-, c10⟩, ⟨-, c11⟩, ⟨-, c12⟩, ⟨-, c13⟩, ⟨-, c14⟩, ⟨-, c15⟩, -⟩ := HE3.out
    have u0 : W3.cell? ⟨g + 1 + 1, 0, none⟩ = some (.int .i64 oq) := cellb HS3.out rfl
    have u1 : W3.cell? ⟨g + 1 + 1, 1, none⟩ = some (.int .i64 0) := cellb HS3.out rfl
    have u2 : W3.cell? ⟨g + 1 + 1, 2, none⟩ = some (.string ⟨#[]⟩) := cellb HS3.out rfl
    have u3 : W3.cell? ⟨g + 1 + 1, 3, none⟩ = some (.slice (some ⟨g + 1, 0, none⟩) 2 2) := cellb HS3.out rfl
    have HAT3 : Hid (ex.kids.At W3 W3.heap.size ao 0) := Lib.hid (HAT.out.2.same HE3.out.1)
    have HWT : Hid ((mk2 oq (mk2 op (nmE [97]) (nmE [98])) (nmE [99])).kids.At W3 W3.heap.size (some ⟨g + 1, 0, none⟩) 0) := Lib.hid (stay_two (B := 0) HS2.out (Nat.zero_le _) ⟨HIO.out.1, by unfold I64; decide, by unfold maxLen; decide, by simp [ExL.len, maxLen]⟩ (stay_two (B := 0) HS1.out (Nat.zero_le _) HOK.out.1 (fun _ _ => trivial) HOK.out.2.1 (fun _ _ => trivial)) HOK.out.2.2 (fun _ _ => trivial)).now
    go_wp2_with fail
    have e := HEX'.out
    subst e
    refine (SameExpr_any _ _ _ _ _ ao cap (some ⟨g + 1, 0, none⟩) 2 HAT.out.1 HAT3.out HWT.out).mono ?_
    rintro e w5 ⟨rfl, hb5⟩
    go_wp2_with fail
    go_ret
    exact ⟨rfl, HB.out.trans ((HE3.out.1.trans (hb5.mono HE3.out.1.size)).mono HB.out.size)⟩
end Go.Proofs.YtommnhglgedflaaDoor
