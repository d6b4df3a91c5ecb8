/-
  Contract of the scene's Spoil: a text changed at one place is a text of at most twice its length and one byte.
-/
import Derived.Test.YtehnipchbmjlhaaGreatDoorGMB
import Derived.Test.YtehnipchbmjlhaaGreatDoorGMA
import Derived.Laws.BytesString
import Derived.ProofKit
import Derived.OpenShut
import Derived.Deep.DeepCutAuto
import Derived.Deep.CutBlock
set_option linter.unusedSimpArgs false
set_option linter.unusedVariables false
set_option maxHeartbeats 40000000
set_option maxRecDepth 1000000
namespace Go.Proofs.YtehnipchbmjlhaaGreatDoor
open Go.RowKit
open Md
def SpP (n:Nat) (w:World) (e:Ending) (w':World):Prop:= ∃t:ByteArray,e= .returned (.string t)∧t.size≤n∧Below w.heap.size w w'
theorem Dp (w:World) (b cap:Nat) (c:Int) (hc:w.cell? ⟨b,0,none⟩=some (.int .u8 c)): ∃t:ByteArray,t.size=1∧(convert 22 9 (.slice (some ⟨b,0,none⟩) 1 cap)).run Tryz.prog w= .ok (.string t) w:=by
 refine ⟨[c].foldl (fun r n=>r.push (UInt8.ofNat n.toNat)) ByteArray.empty,rfl,?_⟩
 rw [run_convert_bytes_string w 22 9 5 _ _ _ Tryz.underlying22 Tryz.underlying5 Tryz.underlying9]
 refine run_bytesToString w _ 1 cap [c] ?_
 refine run_loadCells_list (P:=Tryz.prog) w ⟨b,0,none⟩ [.int .u8 c] (fun j v hj=> ?_)
 match j,hj with
 | 0,hj=>simp at hj; subst hj; simpa [Addr.add] using hc
theorem Jr {w:World} {K:Act→Prop} {a:Act} (h:K a):eD w K [] a:=h
theorem O1 (s:ByteArray) (hs:s.size≤11000000000000) (a h c:Int) (ha:0≤a) (ha2:a≤65535) (hh:0≤h) (hh2:h≤65535) (w:World):
 Calls Tryz.prog 17 #[.string s,.int .u16 a,.int .u16 h,.int .u8 c] w (SpP (2 * s.size + 1) w):=by
 by_cases h0:s=ByteArray.empty
 ·subst h0
  go_enter Tryz.func17,Tryz.ntmps17
  go_upto_region 2 with fail
  generalize hW:World.alloc w _=W
  have HC:Hid (W.cell? ⟨w.heap.size,0,none⟩=some (.int .u8 c)):=Lib.hid (by rw [← hW]; exact dD w [.int .u8 c] 5 0)
  have HB:Hid (Below w.heap.size w W):=Lib.hid (by rw [← hW]; exact (Below.refl _ _).alloc (Nat.le_refl _) _)
  obtain ⟨t,ht,hr⟩:=Dp W w.heap.size 1 c HC.out
  go_wp2_with fail
  go_ret
  exact ⟨t,rfl,by omega,HB.out⟩
 ·have hpos:0 < s.size:=by
   rcases Nat.eq_zero_or_pos s.size with hz | hz
   ·exact absurd (ByteArray.ext (Array.eq_empty_of_size_eq_zero hz)) h0
   ·exact hz
  have he:s.toList.isEmpty=false:=by
   rw [Lib.toList_data]
   rw [Lib.size_eq] at hpos
   cases hl:s.data.toList with
   | nil=>rw [hl] at hpos; exact absurd hpos (by decide)
   | cons=>rfl
  have hi0:=Int.emod_nonneg a (show (s.size:Int)≠0 by omega)
  have hi1:=Int.emod_lt_of_pos a (show (0:Int) < s.size by omega)
  obtain ⟨k,hk⟩: ∃k:Nat,a % (s.size:Int)=(k:Int):=⟨(a % (s.size:Int)).toNat,by omega⟩
  have hks:k < s.size:=by omega
  have hm0:=Int.emod_nonneg h (show (6:Int)≠0 by decide)
  have hm1:=Int.emod_lt_of_pos h (show (0:Int) < 6 by decide)
  have hm:h % 6=0∨h % 6=1∨h % 6=2∨h % 6=3∨h % 6=4∨h % 6=5:=by omega
  have hb2:a % (s.size:Int)≤s.size:=by omega
  have hb3:0≤a % (s.size:Int) + 1:=by omega
  have hb4:a % (s.size:Int) + 1≤s.size:=by omega
  have hw:IntKind.i64.wrap (a % (s.size:Int) + 1)=a % (s.size:Int) + 1:=IntWalk.i64_in _ (by omega)
  have hx0:(s.extract 0 (a % (s.size:Int)).toNat).size≤s.size:=by rw [ByteArray.size_extract]; omega
  have hx1:(s.extract (a % (s.size:Int)).toNat s.size).size≤s.size:=by rw [ByteArray.size_extract]; omega
  clear hm0 hm1 hk hks
  rcases hm with hm | hm | hm | hm | hm | hm
  ·go_enter Tryz.func17,Tryz.ntmps17
   go_upto_region 6 with fail
   refine zi (fun w'=>Below w.heap.size w w') (fun w w'=>Below w.heap.size w w') [24,25,26,27,28,29,30,31,32,33,34,35,8] (by kernel_rfl) (by kernel_rfl) (fun _=>Below.refl _ _) (by rfl) (below_drewN (Below.refl _ _) 1) ?_
   apply jW.step
   case aG=>
    intro β A w' hβ hC hO hD
    have e0:=hO 0 (by rfl)
    have e3:=hO 3 (by rfl)
    have e9:=hO 9 (by rfl)
    simp [Act.eval] at e0 e3 e9
    simp [aC,aB,au,Act.eval,Region.binds] at hD
    simp [go_sem,gd,Oper.wp,e0,e3,e9,hD]
    exact aA.mk (Below.refl _ _) hC (aB.mk _ _)
   apply jW.step
   case aG=>
    intro β A w' hβ hC hO hD
    have e0:=hO 0 (by rfl)
    have e3:=hO 3 (by rfl)
    have e9:=hO 9 (by rfl)
    simp [Act.eval] at e0 e3 e9
    simp [aC,aB,au,Act.eval,Region.binds] at hD
    simp [go_sem,gd,Oper.wp,e0,e3,e9,hD]
    exact aA.mk (Below.refl _ _) hC (aB.mk _ _)
   apply jW.step
   case aG=>
    intro β A w' hβ hC hO hD
    have e0:=hO 0 (by rfl)
    have e3:=hO 3 (by rfl)
    have e9:=hO 9 (by rfl)
    simp [Act.eval] at e0 e3 e9
    simp [aC,aB,au,Act.eval,Region.binds] at hD
    simp [go_sem,gd,Oper.wp,e0,e3,e9,hD,hi0,hb2]
    exact aA.mk (Below.refl _ _) hC (aB.mk _ _)
   apply jW.step
   case aG=>
    intro β A w' hβ hC hO hD
    have e0:=hO 0 (by rfl)
    have e3:=hO 3 (by rfl)
    have e9:=hO 9 (by rfl)
    simp [Act.eval] at e0 e3 e9
    simp [aC,aB,au,Act.eval,Region.binds] at hD
    simp [go_sem,gd,Oper.wp,e0,e3,e9,hD]
    exact aA.mk (Below.refl _ _) hC (aB.mk _ _)
   refine jW.some (fun v w'=> ∃b,v= .slice (some ⟨b,0,none⟩) 1 1∧b < w'.heap.size∧w'.cell? ⟨b,0,none⟩=some (.int .u8 c)) ?_ ?_ ?_
   ·rintro v w w' hle ⟨b,h1,h2,h3⟩
    exact ⟨b,h1,Nat.lt_of_lt_of_le h2 hle.size,(hle.cell (p:=⟨b,0,none⟩) h2).trans h3⟩
   ·intro β A w' hβ hC hO hD
    simp [aC,aB,au,Act.eval,Region.binds] at hD
    simp [go_sem,gd,Oper.wp,hD]
    exact aA.mk (d:=_) (v:= .slice (some ⟨_,0,none⟩) 1 1) ((Below.refl _ _).alloc (Nat.le_refl _) _) (hC.trans (((Below.refl _ _).alloc (Nat.le_refl _) _).mono hC.size)) ⟨_,rfl,by simp,dD w' [.int .u8 c] 5 0⟩
   refine jW.some (fun v _=> ∃t:ByteArray,v= .string t∧t.size=1) (fun _ _ _ _ h=>h) ?_ ?_
   ·intro β A w' hβ hC hO hD
    simp [aC,aB,au,Act.eval,Region.binds] at hD
    obtain ⟨b,h1,h2,h3⟩:=hD
    obtain ⟨t,ht,hr⟩:=Dp w' b 1 c h3
    simp [go_sem,gd,Oper.wp,h1,hr]
    exact aA.mk (Below.refl _ _) hC ⟨t,rfl,ht⟩
   refine jW.some (fun v _=> ∃t:ByteArray,v= .string t∧t.size≤s.size + 1) (fun _ _ _ _ h=>h) ?_ ?_
   ·intro β A w' hβ hC hO hD
    simp [aC,aB,au,Act.eval,Region.binds] at hD
    obtain ⟨h1,t,h2,ht⟩:=hD
    have hs': ¬ 9223372036854775807 < (s.extract 0 (a % (s.size:Int)).toNat).size + t.size:=by omega
    simp only [ByteArray.size_extract,Nat.sub_zero] at hs'
    simp [go_sem,gd,Oper.wp,h1,h2,hs']
    exact aA.mk (Below.refl _ _) hC ⟨_,rfl,by rw [ByteArray.size_append]; omega⟩
   apply jW.step
   case aG=>
    intro β A w' hβ hC hO hD
    have e0:=hO 0 (by rfl)
    have e3:=hO 3 (by rfl)
    have e9:=hO 9 (by rfl)
    simp [Act.eval] at e0 e3 e9
    simp [aC,aB,au,Act.eval,Region.binds] at hD
    simp [go_sem,gd,Oper.wp,e0,e3,e9,hD]
    exact aA.mk (Below.refl _ _) hC (aB.mk _ _)
   apply jW.step
   case aG=>
    intro β A w' hβ hC hO hD
    have e0:=hO 0 (by rfl)
    have e3:=hO 3 (by rfl)
    have e9:=hO 9 (by rfl)
    simp [Act.eval] at e0 e3 e9
    simp [aC,aB,au,Act.eval,Region.binds] at hD
    simp [go_sem,gd,Oper.wp,e0,e3,e9,hD]
    exact aA.mk (Below.refl _ _) hC (aB.mk _ _)
   apply jW.step
   case aG=>
    intro β A w' hβ hC hO hD
    have e0:=hO 0 (by rfl)
    have e3:=hO 3 (by rfl)
    have e9:=hO 9 (by rfl)
    simp [Act.eval] at e0 e3 e9
    simp [aC,aB,au,Act.eval,Region.binds] at hD
    simp [go_sem,gd,Oper.wp,e0,e3,e9,hD,hw]
    exact aA.mk (Below.refl _ _) hC (aB.mk _ _)
   apply jW.step
   case aG=>
    intro β A w' hβ hC hO hD
    have e0:=hO 0 (by rfl)
    have e3:=hO 3 (by rfl)
    have e9:=hO 9 (by rfl)
    simp [Act.eval] at e0 e3 e9
    simp [aC,aB,au,Act.eval,Region.binds] at hD
    simp [go_sem,gd,Oper.wp,e0,e3,e9,hD,hb3,hb4]
    exact aA.mk (Below.refl _ _) hC (aB.mk _ _)
   refine jW.some (fun v _=> ∃t:ByteArray,v= .string t∧t.size≤2 * s.size + 1) (fun _ _ _ _ h=>h) ?_ ?_
   ·intro β A w' hβ hC hO hD
    simp [aC,aB,au,Act.eval,Region.binds] at hD
    obtain ⟨⟨t,h2,ht⟩,h1⟩:=hD
    have hx: ∀n,(s.extract n s.size).size≤s.size:=fun n=>by rw [ByteArray.size_extract]; omega
    have hs': ∀n,¬ 9223372036854775807 < t.size + (s.size - n):=fun n=>by omega
    have hz: ∀n,(t++s.extract n s.size).size≤2 * s.size + 1:=fun n=>by rw [ByteArray.size_append]; have:=hx n; omega
    simp [go_sem,gd,Oper.wp,h1,h2,hs']
    exact aA.mk (Below.refl _ _) hC ⟨_,rfl,hz _⟩
   refine jW.some (fun v _=> ∃t:ByteArray,v= .string t∧t.size≤2 * s.size + 1) (fun _ _ _ _ h=>h) ?_ ?_
   ·intro β A w' hβ hC hO hD
    simp [aC,aB,au,Act.eval,Region.binds] at hD
    obtain ⟨⟨t,h2,ht⟩,-⟩:=hD
    simp [go_sem,gd,Oper.wp,h2]
    exact aA.mk (Below.refl _ _) hC ⟨t,rfl,ht⟩
   intro wz eY
   intro v0 h0 v1 h1 v2 h2 v3 h3 v4 h4 v5 h5 v6 h6 v7 h7 v8 h8 v9 h9 v10 h10 v11 h11 v12 h12
   obtain ⟨t,h12,ht⟩:=h12
   subst h12
   clear h0 h1 h2 h3 h4 h5 h6 h7 h8 h9 h10 h11
   refine Jr ?_
   go_simp
   go_wp2_with fail
   go_ret
   exact ⟨t,rfl,ht,eY⟩
  ·go_enter Tryz.func17,Tryz.ntmps17
   go_upto_region 8 with fail
   refine zi (fun w'=>Below w.heap.size w w') (fun w w'=>Below w.heap.size w w') [38,39,40,41,42,43,44,45,46,47,48,8] (by kernel_rfl) (by kernel_rfl) (fun _=>Below.refl _ _) (by rfl) (below_drewN (Below.refl _ _) 1) ?_
   apply jW.step
   case aG=>
    intro β A w' hβ hC hO hD
    have e0:=hO 0 (by rfl)
    have e3:=hO 3 (by rfl)
    have e9:=hO 9 (by rfl)
    simp [Act.eval] at e0 e3 e9
    simp [aC,aB,au,Act.eval,Region.binds] at hD
    simp [go_sem,gd,Oper.wp,e0,e3,e9,hD]
    exact aA.mk (Below.refl _ _) hC (aB.mk _ _)
   apply jW.step
   case aG=>
    intro β A w' hβ hC hO hD
    have e0:=hO 0 (by rfl)
    have e3:=hO 3 (by rfl)
    have e9:=hO 9 (by rfl)
    simp [Act.eval] at e0 e3 e9
    simp [aC,aB,au,Act.eval,Region.binds] at hD
    simp [go_sem,gd,Oper.wp,e0,e3,e9,hD]
    exact aA.mk (Below.refl _ _) hC (aB.mk _ _)
   apply jW.step
   case aG=>
    intro β A w' hβ hC hO hD
    have e0:=hO 0 (by rfl)
    have e3:=hO 3 (by rfl)
    have e9:=hO 9 (by rfl)
    simp [Act.eval] at e0 e3 e9
    simp [aC,aB,au,Act.eval,Region.binds] at hD
    simp [go_sem,gd,Oper.wp,e0,e3,e9,hD,hi0,hb2]
    exact aA.mk (Below.refl _ _) hC (aB.mk _ _)
   apply jW.step
   case aG=>
    intro β A w' hβ hC hO hD
    have e0:=hO 0 (by rfl)
    have e3:=hO 3 (by rfl)
    have e9:=hO 9 (by rfl)
    simp [Act.eval] at e0 e3 e9
    simp [aC,aB,au,Act.eval,Region.binds] at hD
    simp [go_sem,gd,Oper.wp,e0,e3,e9,hD]
    exact aA.mk (Below.refl _ _) hC (aB.mk _ _)
   refine jW.some (fun v w'=> ∃b,v= .slice (some ⟨b,0,none⟩) 1 1∧b < w'.heap.size∧w'.cell? ⟨b,0,none⟩=some (.int .u8 c)) ?_ ?_ ?_
   ·rintro v w w' hle ⟨b,h1,h2,h3⟩
    exact ⟨b,h1,Nat.lt_of_lt_of_le h2 hle.size,(hle.cell (p:=⟨b,0,none⟩) h2).trans h3⟩
   ·intro β A w' hβ hC hO hD
    simp [aC,aB,au,Act.eval,Region.binds] at hD
    simp [go_sem,gd,Oper.wp,hD]
    exact aA.mk (d:=_) (v:= .slice (some ⟨_,0,none⟩) 1 1) ((Below.refl _ _).alloc (Nat.le_refl _) _) (hC.trans (((Below.refl _ _).alloc (Nat.le_refl _) _).mono hC.size)) ⟨_,rfl,by simp,dD w' [.int .u8 c] 5 0⟩
   refine jW.some (fun v _=> ∃t:ByteArray,v= .string t∧t.size=1) (fun _ _ _ _ h=>h) ?_ ?_
   ·intro β A w' hβ hC hO hD
    simp [aC,aB,au,Act.eval,Region.binds] at hD
    obtain ⟨b,h1,h2,h3⟩:=hD
    obtain ⟨t,ht,hr⟩:=Dp w' b 1 c h3
    simp [go_sem,gd,Oper.wp,h1,hr]
    exact aA.mk (Below.refl _ _) hC ⟨t,rfl,ht⟩
   refine jW.some (fun v _=> ∃t:ByteArray,v= .string t∧t.size≤s.size + 1) (fun _ _ _ _ h=>h) ?_ ?_
   ·intro β A w' hβ hC hO hD
    simp [aC,aB,au,Act.eval,Region.binds] at hD
    obtain ⟨h1,t,h2,ht⟩:=hD
    have hs': ¬ 9223372036854775807 < (s.extract 0 (a % (s.size:Int)).toNat).size + t.size:=by omega
    simp only [ByteArray.size_extract,Nat.sub_zero] at hs'
    simp [go_sem,gd,Oper.wp,h1,h2,hs']
    exact aA.mk (Below.refl _ _) hC ⟨_,rfl,by rw [ByteArray.size_append]; omega⟩
   apply jW.step
   case aG=>
    intro β A w' hβ hC hO hD
    have e0:=hO 0 (by rfl)
    have e3:=hO 3 (by rfl)
    have e9:=hO 9 (by rfl)
    simp [Act.eval] at e0 e3 e9
    simp [aC,aB,au,Act.eval,Region.binds] at hD
    simp [go_sem,gd,Oper.wp,e0,e3,e9,hD]
    exact aA.mk (Below.refl _ _) hC (aB.mk _ _)
   apply jW.step
   case aG=>
    intro β A w' hβ hC hO hD
    have e0:=hO 0 (by rfl)
    have e3:=hO 3 (by rfl)
    have e9:=hO 9 (by rfl)
    simp [Act.eval] at e0 e3 e9
    simp [aC,aB,au,Act.eval,Region.binds] at hD
    simp [go_sem,gd,Oper.wp,e0,e3,e9,hD]
    exact aA.mk (Below.refl _ _) hC (aB.mk _ _)
   apply jW.step
   case aG=>
    intro β A w' hβ hC hO hD
    have e0:=hO 0 (by rfl)
    have e3:=hO 3 (by rfl)
    have e9:=hO 9 (by rfl)
    simp [Act.eval] at e0 e3 e9
    simp [aC,aB,au,Act.eval,Region.binds] at hD
    simp [go_sem,gd,Oper.wp,e0,e3,e9,hD,hi0,hb2]
    exact aA.mk (Below.refl _ _) hC (aB.mk _ _)
   refine jW.some (fun v _=> ∃t:ByteArray,v= .string t∧t.size≤2 * s.size + 1) (fun _ _ _ _ h=>h) ?_ ?_
   ·intro β A w' hβ hC hO hD
    simp [aC,aB,au,Act.eval,Region.binds] at hD
    obtain ⟨⟨t,h2,ht⟩,h1⟩:=hD
    have hx: ∀n,(s.extract n s.size).size≤s.size:=fun n=>by rw [ByteArray.size_extract]; omega
    have hs': ∀n,¬ 9223372036854775807 < t.size + (s.size - n):=fun n=>by omega
    have hz: ∀n,(t++s.extract n s.size).size≤2 * s.size + 1:=fun n=>by rw [ByteArray.size_append]; have:=hx n; omega
    simp [go_sem,gd,Oper.wp,h1,h2,hs']
    exact aA.mk (Below.refl _ _) hC ⟨_,rfl,hz _⟩
   refine jW.some (fun v _=> ∃t:ByteArray,v= .string t∧t.size≤2 * s.size + 1) (fun _ _ _ _ h=>h) ?_ ?_
   ·intro β A w' hβ hC hO hD
    simp [aC,aB,au,Act.eval,Region.binds] at hD
    obtain ⟨⟨t,h2,ht⟩,-⟩:=hD
    simp [go_sem,gd,Oper.wp,h2]
    exact aA.mk (Below.refl _ _) hC ⟨t,rfl,ht⟩
   intro wz eY
   intro v0 h0 v1 h1 v2 h2 v3 h3 v4 h4 v5 h5 v6 h6 v7 h7 v8 h8 v9 h9 v10 h10 v11 h11
   obtain ⟨t,h11,ht⟩:=h11
   subst h11
   clear h0 h1 h2 h3 h4 h5 h6 h7 h8 h9 h10
   refine Jr ?_
   go_simp
   go_wp2_with fail
   go_ret
   exact ⟨t,rfl,ht,eY⟩
  ·have hy0: ¬ 9223372036854775807 < (s.extract 0 (a % (s.size:Int)).toNat).size + (s.extract (a % (s.size:Int) + 1).toNat s.size).size:=by rw [ByteArray.size_extract,ByteArray.size_extract]; omega
   have hy1:((s.extract 0 (a % (s.size:Int)).toNat)++(s.extract (a % (s.size:Int) + 1).toNat s.size)).size≤2 * s.size + 1:=by rw [ByteArray.size_append,ByteArray.size_extract,ByteArray.size_extract]; omega
   go_enter Tryz.func17,Tryz.ntmps17
   go_upto_region 10 with fail
   simp only [ByteArray.size_extract] at hy0
   go_quiet (fail)
   go_wp2_with fail
   go_ret
   exact ⟨_,rfl,hy1,below_drewN (Below.refl _ _) _⟩
  ·go_enter Tryz.func17,Tryz.ntmps17
   go_wp2_with fail
   go_ret
   exact ⟨_,rfl,by omega,Below.refl _ _⟩
  ·have hy1:(s++s.extract (a % (s.size:Int)).toNat s.size).size≤2 * s.size + 1:=by rw [ByteArray.size_append]; omega
   have hy0: ¬ 9223372036854775807 < s.size + (s.extract (a % (s.size:Int)).toNat s.size).size:=by omega
   simp only [ByteArray.size_extract] at hy0
   go_enter Tryz.func17,Tryz.ntmps17
   go_wp2_with fail
   go_ret
   exact ⟨_,rfl,hy1,Below.refl _ _⟩
  ·go_enter Tryz.func17,Tryz.ntmps17
   go_wp2_with fail
   go_ret
   exact ⟨_,rfl,by omega,Below.refl _ _⟩
end Go.Proofs.YtehnipchbmjlhaaGreatDoor
