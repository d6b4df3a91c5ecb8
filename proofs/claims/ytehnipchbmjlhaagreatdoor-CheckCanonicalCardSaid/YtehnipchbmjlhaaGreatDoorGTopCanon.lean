/-
  The law CheckCanonical holds: for every input the call returns true and the arguments read as before (the tied card).
  Conditions: the listed package-level variables start as the program lays them.
-/
import Derived.Test.YtehnipchbmjlhaaGreatDoorGPaLaid
import Derived.Test.YtehnipchbmjlhaaGreatDoorGLawCanon
import Derived.SizedLaws
import Derived.Lib.Hide
import Derived.Test.YtehnipchbmjlhaaGreatDoorGMS
set_option linter.unusedSimpArgs false
set_option linter.unusedVariables false
set_option maxHeartbeats 40000000
set_option maxRecDepth 1000000
namespace Go.Proofs.YtehnipchbmjlhaaGreatDoor.checkCanonical
open Go.ChangeShapes Go.WideShapes Go.ChangeAt Go.RowKit
open Go.WideMaps Go.WideElems
open Go.ChangeMaps (open_string shut_string)
theorem keywords {W:World} (h:laidMetH Tryz.prog Rows.checkCanonicalRow.laid W):cO W:=
 LZ (by kernel_rfl) (laidMet.tail (laidMet.tail (laidMet.tail (laidMet.tail (laidMet.tail (laidMet.tail (show laidMet Tryz.prog Rows.checkCanonicalRow.laid W from h)))))))
theorem QM:Tryz.prog.cellsOf 171=20:=by kernel_rfl
theorem Rm:Tryz.prog.cellsOf 158=1:=by kernel_rfl
theorem powers {W:World} (h:laidMetH Tryz.prog Rows.checkCanonicalRow.laid W):jU W:=
 Lib.tabIs_of_head (zs:=Lib.pow10Tab) aj1 (by kernel_rfl) Tryz.underlying171 Tryz.underlying158 Rm QM (laidMet.tail (laidMet.tail (show laidMet Tryz.prog Rows.checkCanonicalRow.laid W from h)))
theorem contract (H:Type) (enc:TypeId × Value→H) (W:World) (base:Nat) (args:Array Value) (ds gs:List (DataW H)) (before:List MemPlace)
 (hval: ∀(j:Nat) t v,Tryz.f8.params[j]? =some t→args[j]? =some v→Value.okWide Tryz.prog W .any base t v)
 (hW:DataW.Whole enc Tryz.prog Tryz.f8.params.toList Rows.checkCanonicalSpec.vars false W args.toList ds gs before) (hL:laidMetH Tryz.prog Rows.checkCanonicalRow.laid W):
 Calls Tryz.prog 8 args W fun e W'=> ∃v,e= .returned v∧Rows.checkCanonicalSpec.post enc Tryz.prog Tryz.f8 false true false false W args v W':=by
 have hW':=hW
 obtain ⟨p,q,SQ,hV,rfl,hfz,hnd⟩:=hW
 have hA:DataW.TrodAll enc Tryz.prog W 0 (fun _=>true) true Tryz.f8.params.toList args.toList ds p:=SQ
 rw [Tryz.params8] at hA hval
 obtain ⟨v0,vs0,d0,ds0,p0,q0,hargs,rfl,rfl,h0,r0⟩:=trodAll_cons hA
 obtain ⟨rfl,rfl,rfl⟩:=trodAll_nil r0
 obtain rfl:args= #[v0]:=by cases args; simp_all
 obtain ⟨rfl,rfl⟩:=trodVars_none hV
 have hk0:=h0
 have Ww: ∀x ∈ p0,x.block < W.heap.size:=fun x hx=>by have:=hW'.lt x; simp [hx] at this; exact this
 obtain ⟨yt,ag0,cap0,zs0,rfl,YM,hcap0,hz0⟩:=OZ (hval 0 22 v0 rfl rfl) h0 Ww
 clear SQ
 simp only [List.append_nil] at hW'
 refine (zI yt ag0 cap0 zs0 YM hcap0 W hz0 (keywords hL) (powers hL)).mono fun e W' ⟨he,hg⟩=> ?_
 subst he
 exact ⟨_,rfl,_,_,_,[],_,[],hW',trodAll_cons_mk (shut_bool Tryz.underlying4 _) trodAll_mk0,(trodAll_cons_mk (Below.trod Tryz.laidOut (by kernel_rfl) (of_decide_eq_true (by kernel_rfl)) hk0 hg Ww) trodAll_mk0),rfl,hg.frame _,fun h=>by cases h⟩
theorem Q9 (os:Os):laidMet Tryz.prog Rows.checkCanonicalRow.laid ((Ba os).forCall (fun _ _=>0) ⟨#[],#[.slice none 0 0],[]⟩).memory:=
 laidMet_of_run' 8 (by kernel_rfl) (by kernel_rfl)
theorem reads (os:Os) {H:Type} (enc:TypeId × Value→H): ∃places,DataW.whole enc Tryz.prog ((Ba os).forCall (fun _ _=>0) ⟨#[],#[.slice none 0 0],[]⟩).memory Tryz.f8.params.toList Rows.checkCanonicalSpec.vars false (#[.slice none 0 0]:Array Value).toList 8=some ([.nil],[],places):=
 ⟨[],by kernel_rfl⟩
theorem lifted (os:Os) (started:os.Started) (H:Type) (enc:TypeId × Value→H) (F:Stop.Interp):
 ReturnsInHanded {} Tryz.checked os 8 .any ((OpenSpec.ofChange Rows.checkCanonicalSpec).preRow enc Tryz.prog Tryz.f8 Rows.checkCanonicalRow.domain false Rows.checkCanonicalRow.laid) (((OpenSpec.ofChange Rows.checkCanonicalSpec).at F).post enc Tryz.prog Tryz.f8 false true false false):=by
 obtain ⟨places,hx⟩:=reads os enc
 refine returnsInHanded_of_row (C:=Tryz.checked) (s:=OpenSpec.ofChange Rows.checkCanonicalSpec) own started (by kernel_rfl) Tryz.func8
  (witness_row_at (enc:=enc) (C:=Tryz.checked) false (Ba os) #[.slice none 0 0] rfl (by kernel_rfl) (by kernel_rfl) (by kernel_rfl)
   (OpenSpec.preRow_of_cond 8 hx (by kernel_rfl) (fun k hk=>by cases hk) (by kernel_rfl) (Q9 os))) ?_
 intro W base args ds gs before hval hW _ _ _ hL _ _
 exact contract H enc W base args ds gs before hval hW hL
theorem said:Rows.CheckCanonicalSaid:=
 OpenClaim.holds_of_cond 8 Tryz.f8 rfl rfl rfl rfl rfl rfl rfl ⟨rfl,rfl,rfl,rfl,rfl⟩ rfl rfl rfl rfl rfl (by kernel_rfl) Tryz.func8 (by kernel_rfl)
  (of_decide_eq_true (by kernel_rfl)) (by unfold Func.isWrapper; first | (rw [if_pos (by decide +kernel)]; kernel_rfl) | (rw [if_neg (by decide +kernel)]; exact ⟨rfl,rfl⟩))
  (fun os started H enc _ F=>by rw [OpenClaim.pre_eq_preRow]; exact lifted os started H enc F)
theorem plain (f:FuncId) (fn:Func) (hf:Tryz.pinned.checked.prog.funcNamed Rows.checkCanonicalRow.func=some f) (hfn:Tryz.pinned.checked.prog.funcs[f]? =some fn):
 true=Tryz.pinned.checked.prog.looks []∧ ∀(j:Nat) t,fn.params[j]? =some t→Tryz.pinned.checked.prog.wantsStandIn t=false:=by
 obtain rfl:f=8:=Option.some.inj ((show Tryz.prog.funcNamed Rows.checkCanonicalRow.func=some 8 by kernel_rfl).symm.trans hf) |>.symm
 obtain rfl:fn=Tryz.f8:=(Option.some.inj (Tryz.func8.symm.trans hfn)).symm
 refine ⟨by kernel_rfl,fun j t ht=> ?_⟩
 rw [Tryz.params8] at ht
 have hm:=Array.mem_of_getElem? ht
 simp only [List.mem_toArray,List.mem_cons,List.not_mem_nil,or_false] at hm
 rcases hm with rfl
 ·exact (show Tryz.prog.wantsStandIn 22=false by kernel_rfl)
theorem card:Rows.CheckCanonicalCardSaid:=
 Claim7.holds_tied_plain_at .later [] _ _ _ _ said (fun _ h=>by cases h) (by kernel_rfl) (fun _ h=>by cases h) checkCanonical_row_tie rfl ⟨rfl,rfl⟩ (by kernel_rfl) rfl plain (by kernel_rfl)
end Go.Proofs.YtehnipchbmjlhaaGreatDoor.checkCanonical
