/-
  The law CompileLoops holds: for every input the call returns true and the arguments read as before (the tied card).
  Conditions: the listed package-level variables start as the program lays them.
-/
import Derived.Test.YtdajkddgnfgijaaGreatDoorGPaLaid
import Derived.Test.YtdajkddgnfgijaaGreatDoorGLawLoops
import Derived.SizedLaws
import Derived.Lib.Hide
namespace Go.Proofs.YtdajkddgnfgijaaGreatDoor.compileLoops
open Go.ChangeShapes Go.WideShapes Go.ChangeAt Go.RowKit
open Go.WideMaps Go.WideElems
open Go.ChangeMaps (open_string shut_string)
theorem keywords {W:World} (h:laidMetH Tryz.prog Rows.compileLoopsRow.laid W):dw W:=
 LV (by kernel_rfl) (laidMet.tail (laidMet.tail (laidMet.tail (laidMet.tail (laidMet.tail (laidMet.tail (show laidMet Tryz.prog Rows.compileLoopsRow.laid W from h)))))))
set_option maxRecDepth 100000 in
theorem contract (H:Type) (enc:TypeId × Value→H) (W:World) (base:Nat) (args:Array Value) (ds gs:List (DataW H)) (before:List MemPlace)
 (hval: ∀(j:Nat) t v,Tryz.f3.params[j]? =some t→args[j]? =some v→Value.okWide Tryz.prog W .any base t v)
 (hW:DataW.Whole enc Tryz.prog Tryz.f3.params.toList Rows.compileLoopsSpec.vars false W args.toList ds gs before) (hL:laidMetH Tryz.prog Rows.compileLoopsRow.laid W):
 Calls Tryz.prog 3 args W fun e W'=> ∃v,e= .returned v∧Rows.compileLoopsSpec.post enc Tryz.prog Tryz.f3 false true false false W args v W':=by
 have hW':=hW
 obtain ⟨p,q,Sb,hV,rfl,hfz,hnd⟩:=hW
 have hA:DataW.TrodAll enc Tryz.prog W 0 (fun _=>true) true Tryz.f3.params.toList args.toList ds p:=Sb
 rw [Tryz.params3] at hA hval
 obtain ⟨hargs,rfl,rfl⟩:=trodAll_nil hA
 obtain rfl:args= #[]:=by cases args; simp_all
 obtain ⟨rfl,rfl⟩:=trodVars_none hV
 clear Sb
 have hW':=hW'
 refine (BQ W (keywords hL)).mono fun e W' ⟨he,hg⟩=> ?_
 subst he
 exact ⟨_,rfl,_,_,_,[],_,[],hW',trodAll_cons_mk (shut_bool Tryz.underlying4 _) trodAll_mk0,trodAll_mk0,rfl,hg.frame _,fun h=>by cases h⟩
theorem Pe (os:Os):laidMet Tryz.prog Rows.compileLoopsRow.laid ((Ah os).forCall (fun _ _=>0) ⟨#[],#[],[]⟩).memory:=
 laidMet_of_run' 8 (by kernel_rfl) (by kernel_rfl)
theorem reads (os:Os) {H:Type} (enc:TypeId × Value→H): ∃places,DataW.whole enc Tryz.prog ((Ah os).forCall (fun _ _=>0) ⟨#[],#[],[]⟩).memory Tryz.f3.params.toList Rows.compileLoopsSpec.vars false (#[]:Array Value).toList 8=some ([],[],places):=
 ⟨[],by kernel_rfl⟩
set_option maxRecDepth 100000 in
theorem lifted (os:Os) (started:os.Started) (H:Type) (enc:TypeId × Value→H) (F:Stop.Interp):
 ReturnsInHanded {} Tryz.checked os 3 .any ((OpenSpec.ofChange Rows.compileLoopsSpec).preRow enc Tryz.prog Tryz.f3 Rows.compileLoopsRow.domain false Rows.compileLoopsRow.laid) (((OpenSpec.ofChange Rows.compileLoopsSpec).at F).post enc Tryz.prog Tryz.f3 false true false false):=by
 obtain ⟨places,hx⟩:=reads os enc
 refine returnsInHanded_of_row (C:=Tryz.checked) (s:=OpenSpec.ofChange Rows.compileLoopsSpec) own started (by kernel_rfl) Tryz.func3
  (witness_row_at (enc:=enc) (C:=Tryz.checked) false (Ah os) #[] rfl (by kernel_rfl) (by kernel_rfl) (by kernel_rfl)
   (OpenSpec.preRow_of_cond 8 hx (by kernel_rfl) (fun k hk=>by cases hk) (by kernel_rfl) (Pe os))) ?_
 intro W base args ds gs before hval hW _ _ _ hL _ _
 exact contract H enc W base args ds gs before hval hW hL
theorem said:Rows.CompileLoopsSaid:=
 OpenClaim.holds_of_cond 3 Tryz.f3 rfl rfl rfl rfl rfl rfl rfl ⟨rfl,rfl,rfl,rfl,rfl⟩ rfl rfl rfl rfl rfl (by kernel_rfl) Tryz.func3 (by kernel_rfl)
  (of_decide_eq_true (by kernel_rfl)) (by unfold Func.isWrapper; first | (rw [if_pos (by decide +kernel)]; kernel_rfl) | (rw [if_neg (by decide +kernel)]; exact ⟨rfl,rfl⟩))
  (fun os started H enc _ F=>by rw [OpenClaim.pre_eq_preRow]; exact lifted os started H enc F)
theorem plain (f:FuncId) (fn:Func) (hf:Tryz.pinned.checked.prog.funcNamed Rows.compileLoopsRow.func=some f) (hfn:Tryz.pinned.checked.prog.funcs[f]? =some fn):
 true=Tryz.pinned.checked.prog.looks []∧ ∀(j:Nat) t,fn.params[j]? =some t→Tryz.pinned.checked.prog.wantsStandIn t=false:=by
 obtain rfl:f=3:=Option.some.inj ((show Tryz.prog.funcNamed Rows.compileLoopsRow.func=some 3 by kernel_rfl).symm.trans hf) |>.symm
 obtain rfl:fn=Tryz.f3:=(Option.some.inj (Tryz.func3.symm.trans hfn)).symm
 refine ⟨by kernel_rfl,fun j t ht=> ?_⟩
 rw [Tryz.params3] at ht
 simp at ht
theorem card:Rows.CompileLoopsCardSaid:=
 Claim7.holds_tied_plain_at .later [] _ _ _ _ said (fun _ h=>by cases h) (by kernel_rfl) (fun _ h=>by cases h) compileLoops_row_tie rfl ⟨rfl,rfl⟩ (by kernel_rfl) rfl plain (by kernel_rfl)
end Go.Proofs.YtdajkddgnfgijaaGreatDoor.compileLoops
