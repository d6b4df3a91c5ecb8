/-
  The law CheckMade holds: for every input the call returns true and the arguments read as before (the tied card).
  Conditions: the listed package-level variables start as the program lays them.
-/
import Derived.Test.YtnknfoibmgphnaaDoorGO
import Derived.Test.YtnknfoibmgphnaaDoorGLB
import Derived.SizedLaws
import Derived.Lib.Hide
namespace Go.Proofs.YtnknfoibmgphnaaDoor.checkMade
open Go.ChangeShapes Go.WideShapes Go.ChangeAt Go.RowKit
open Go.WideMaps Go.WideElems
open Go.ChangeMaps (open_string shut_string)
theorem keywords {W:World} (h:laidMetH Tryd.prog Rows.checkMadeRow.laid W):dZ W:=
 Gb (by kernel_rfl) (show laidMet Tryd.prog Rows.checkMadeRow.laid W from h)
set_option maxRecDepth 100000 in
theorem contract (H:Type) (enc:TypeId × Value→H) (W:World) (base:Nat) (args:Array Value) (ds gs:List (DataW H)) (before:List MemPlace)
 (hval: ∀(j:Nat) t v,Tryd.f3.params[j]? =some t→args[j]? =some v→Value.okWide Tryd.prog W .any base t v)
 (hW:DataW.Whole enc Tryd.prog Tryd.f3.params.toList Rows.checkMadeSpec.vars false W args.toList ds gs before) (hL:laidMetH Tryd.prog Rows.checkMadeRow.laid W):
 Calls Tryd.prog 3 args W fun e W'=> ∃v,e= .returned v∧Rows.checkMadeSpec.post enc Tryd.prog Tryd.f3 false true false false W args v W':=by
 have hW':=hW
 obtain ⟨p,q,FE,hV,rfl,hfz,hnd⟩:=hW
 have hA:DataW.TrodAll enc Tryd.prog W 0 (fun _=>true) true Tryd.f3.params.toList args.toList ds p:=FE
 rw [Tryd.params3] at hA hval
 obtain ⟨v0,Ve,d0,ds0,p0,q0,hargs,rfl,rfl,h0,r0⟩:=trodAll_cons hA
 obtain ⟨v1,vs1,d1,ds1,p1,q1,rfl,rfl,rfl,h1,r1⟩:=trodAll_cons r0
 obtain ⟨rfl,rfl,rfl⟩:=trodAll_nil r1
 obtain rfl:args= #[v0,v1]:=by cases args; simp_all
 obtain ⟨rfl,rfl⟩:=trodVars_none hV
 have hk0:=h0
 have Nn: ∀x ∈ p0,x.block < W.heap.size:=fun x hx=>by have:=hW'.lt x; simp [hx] at this; exact this
 obtain ⟨ET,Tf,cap0,zs0,rfl,Qj,hcap0,hz0⟩:=Hw (hval 0 22 v0 rfl rfl) h0 Nn
 obtain ⟨x1,rfl,rfl,rfl,R4⟩:=open_int Tryd.underlying5 (hval 1 5 v1 rfl rfl) h1
 clear FE
 simp only [List.append_nil] at hW'
 refine (Bn ET Tf cap0 zs0 Qj hcap0 x1 R4 W hz0 (keywords hL)).mono fun e W' ⟨he,hg⟩=> ?_
 subst he
 exact ⟨_,rfl,_,_,_,[],_,[],hW',trodAll_cons_mk (shut_bool Tryd.underlying4 _) trodAll_mk0,(trodAll_cons_mk (Below.trod Tryd.laidOut (by kernel_rfl) (of_decide_eq_true (by kernel_rfl)) hk0 hg Nn) (trodAll_cons_mk (shut_int Tryd.underlying5 R4) trodAll_mk0)),rfl,hg.frame _,fun h=>by cases h⟩
theorem JZ (os:Os):laidMet Tryd.prog Rows.checkMadeRow.laid ((xK os).forCall (fun _ _=>0) ⟨#[],#[.slice none 0 0,.int .u8 0],[]⟩).memory:=
 laidMet_of_run' 8 (by kernel_rfl) (by kernel_rfl)
theorem reads (os:Os) {H:Type} (enc:TypeId × Value→H): ∃places,DataW.whole enc Tryd.prog ((xK os).forCall (fun _ _=>0) ⟨#[],#[.slice none 0 0,.int .u8 0],[]⟩).memory Tryd.f3.params.toList Rows.checkMadeSpec.vars false (#[.slice none 0 0,.int .u8 0]:Array Value).toList 8=some ([.nil,.lit (.int .u8 0)],[],places):=
 ⟨[],by kernel_rfl⟩
set_option maxRecDepth 100000 in
theorem lifted (os:Os) (started:os.Started) (H:Type) (enc:TypeId × Value→H) (F:Stop.Interp):
 ReturnsInHanded {} Tryd.checked os 3 .any ((OpenSpec.ofChange Rows.checkMadeSpec).preRow enc Tryd.prog Tryd.f3 Rows.checkMadeRow.domain false Rows.checkMadeRow.laid) (((OpenSpec.ofChange Rows.checkMadeSpec).at F).post enc Tryd.prog Tryd.f3 false true false false):=by
 obtain ⟨places,hx⟩:=reads os enc
 refine returnsInHanded_of_row (C:=Tryd.checked) (s:=OpenSpec.ofChange Rows.checkMadeSpec) own started (by kernel_rfl) Tryd.func3
  (witness_row_at (enc:=enc) (C:=Tryd.checked) false (xK os) #[.slice none 0 0,.int .u8 0] rfl (by kernel_rfl) (by kernel_rfl) (by kernel_rfl)
   (OpenSpec.preRow_of_cond 8 hx (by kernel_rfl) (fun k hk=>by cases hk) (by kernel_rfl) (JZ os))) ?_
 intro W base args ds gs before hval hW _ _ _ hL _ _
 exact contract H enc W base args ds gs before hval hW hL
theorem said:Rows.CheckMadeSaid:=
 OpenClaim.holds_of_cond 3 Tryd.f3 rfl rfl rfl rfl rfl rfl rfl ⟨rfl,rfl,rfl,rfl,rfl⟩ rfl rfl rfl rfl rfl (by kernel_rfl) Tryd.func3 (by kernel_rfl)
  (of_decide_eq_true (by kernel_rfl)) (by unfold Func.isWrapper; first | (rw [if_pos (by decide +kernel)]; kernel_rfl) | (rw [if_neg (by decide +kernel)]; exact ⟨rfl,rfl⟩))
  (fun os started H enc _ F=>by rw [OpenClaim.pre_eq_preRow]; exact lifted os started H enc F)
theorem plain (f:FuncId) (fn:Func) (hf:Tryd.pinned.checked.prog.funcNamed Rows.checkMadeRow.func=some f) (hfn:Tryd.pinned.checked.prog.funcs[f]? =some fn):
 false=Tryd.pinned.checked.prog.looks []∧ ∀(j:Nat) t,fn.params[j]? =some t→Tryd.pinned.checked.prog.wantsStandIn t=false:=by
 obtain rfl:f=3:=Option.some.inj ((show Tryd.prog.funcNamed Rows.checkMadeRow.func=some 3 by kernel_rfl).symm.trans hf) |>.symm
 obtain rfl:fn=Tryd.f3:=(Option.some.inj (Tryd.func3.symm.trans hfn)).symm
 refine ⟨by kernel_rfl,fun j t ht=> ?_⟩
 rw [Tryd.params3] at ht
 have hm:=Array.mem_of_getElem? ht
 simp only [List.mem_toArray,List.mem_cons,List.not_mem_nil,or_false] at hm
 rcases hm with rfl | rfl
 ·exact (show Tryd.prog.wantsStandIn 22=false by kernel_rfl)
 ·exact (show Tryd.prog.wantsStandIn 5=false by kernel_rfl)
theorem card:Rows.CheckMadeCardSaid:=
 Claim7.holds_tied_plain_at .later [] _ _ _ _ said (fun _ h=>by cases h) (by kernel_rfl) (fun _ h=>by cases h) checkMade_row_tie rfl ⟨rfl,rfl⟩ (by kernel_rfl) rfl plain (by kernel_rfl)
end Go.Proofs.YtnknfoibmgphnaaDoor.checkMade
