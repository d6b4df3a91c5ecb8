/-
  The law ParseParentheses holds: for every input the call returns true and the arguments read as before (the tied card).
  Conditions: the listed package-level variables start as the program lays them.
-/
import Derived.Test.YtehnipchbmjlhaaGreatDoorGPaLaid
import Derived.Test.YtehnipchbmjlhaaGreatDoorGLawParens
import Derived.SizedLaws
import Derived.Lib.Hide
import Derived.Test.YtehnipchbmjlhaaGreatDoorGMS
namespace Go.Proofs.YtehnipchbmjlhaaGreatDoor.parseParentheses
open Go.ChangeShapes Go.WideShapes Go.ChangeAt Go.RowKit
open Go.WideMaps Go.WideElems
open Go.ChangeMaps (open_string shut_string)
theorem keywords {W:World} (h:laidMetH Tryz.prog Rows.parseParenthesesRow.laid W):dL W:=
 zx (by kernel_rfl) (laidMet.tail (laidMet.tail (laidMet.tail (laidMet.tail (laidMet.tail (laidMet.tail (show laidMet Tryz.prog Rows.parseParenthesesRow.laid W from h)))))))
theorem vC:Tryz.prog.cellsOf 171=20:=by kernel_rfl
theorem uE:Tryz.prog.cellsOf 158=1:=by kernel_rfl
theorem powers {W:World} (h:laidMetH Tryz.prog Rows.parseParenthesesRow.laid W):iM W:=
 Lib.tabIs_of_head (zs:=Lib.pow10Tab) QF (by kernel_rfl) Tryz.underlying171 Tryz.underlying158 uE vC (laidMet.tail (laidMet.tail (show laidMet Tryz.prog Rows.parseParenthesesRow.laid W from h)))
set_option maxRecDepth 100000 in
theorem contract (H:Type) (enc:TypeId × Value→H) (W:World) (base:Nat) (args:Array Value) (ds gs:List (DataW H)) (before:List MemPlace)
 (hval: ∀(j:Nat) t v,Tryz.f7.params[j]? =some t→args[j]? =some v→Value.okWide Tryz.prog W .any base t v)
 (hW:DataW.Whole enc Tryz.prog Tryz.f7.params.toList Rows.parseParenthesesSpec.vars false W args.toList ds gs before) (hL:laidMetH Tryz.prog Rows.parseParenthesesRow.laid W):
 Calls Tryz.prog 7 args W fun e W'=> ∃v,e= .returned v∧Rows.parseParenthesesSpec.post enc Tryz.prog Tryz.f7 false true false false W args v W':=by
 have hW':=hW
 obtain ⟨p,q,Fx,hV,rfl,hfz,hnd⟩:=hW
 have hA:DataW.TrodAll enc Tryz.prog W 0 (fun _=>true) true Tryz.f7.params.toList args.toList ds p:=Fx
 rw [Tryz.params7] at hA hval
 obtain ⟨v0,vs0,d0,ds0,p0,q0,hargs,rfl,rfl,h0,r0⟩:=trodAll_cons hA
 obtain ⟨rfl,rfl,rfl⟩:=trodAll_nil r0
 obtain rfl:args= #[v0]:=by cases args; simp_all
 obtain ⟨rfl,rfl⟩:=trodVars_none hV
 have hk0:=h0
 have qm: ∀x ∈ p0,x.block < W.heap.size:=fun x hx=>by have:=hW'.lt x; simp [hx] at this; exact this
 obtain ⟨pz,Jv,cap0,zs0,rfl,Dl,hcap0,hz0⟩:=AO (hval 0 22 v0 rfl rfl) h0 qm
 clear Fx
 simp only [List.append_nil] at hW'
 refine (yK pz Jv cap0 zs0 Dl hcap0 W hz0 (keywords hL) (powers hL)).mono fun e W' ⟨he,hg⟩=> ?_
 subst he
 exact ⟨_,rfl,_,_,_,[],_,[],hW',trodAll_cons_mk (shut_bool Tryz.underlying4 _) trodAll_mk0,(trodAll_cons_mk (Below.trod Tryz.laidOut (by kernel_rfl) (of_decide_eq_true (by kernel_rfl)) hk0 hg qm) trodAll_mk0),rfl,hg.frame _,fun h=>by cases h⟩
theorem vN (os:Os):laidMet Tryz.prog Rows.parseParenthesesRow.laid ((lI os).forCall (fun _ _=>0) ⟨#[],#[.slice none 0 0],[]⟩).memory:=
 laidMet_of_run' 8 (by kernel_rfl) (by kernel_rfl)
theorem reads (os:Os) {H:Type} (enc:TypeId × Value→H): ∃places,DataW.whole enc Tryz.prog ((lI os).forCall (fun _ _=>0) ⟨#[],#[.slice none 0 0],[]⟩).memory Tryz.f7.params.toList Rows.parseParenthesesSpec.vars false (#[.slice none 0 0]:Array Value).toList 8=some ([.nil],[],places):=
 ⟨[],by kernel_rfl⟩
set_option maxRecDepth 100000 in
theorem lifted (os:Os) (started:os.Started) (H:Type) (enc:TypeId × Value→H) (F:Stop.Interp):
 ReturnsInHanded {} Tryz.checked os 7 .any ((OpenSpec.ofChange Rows.parseParenthesesSpec).preRow enc Tryz.prog Tryz.f7 Rows.parseParenthesesRow.domain false Rows.parseParenthesesRow.laid) (((OpenSpec.ofChange Rows.parseParenthesesSpec).at F).post enc Tryz.prog Tryz.f7 false true false false):=by
 obtain ⟨places,hx⟩:=reads os enc
 refine returnsInHanded_of_row (C:=Tryz.checked) (s:=OpenSpec.ofChange Rows.parseParenthesesSpec) own started (by kernel_rfl) Tryz.func7
  (witness_row_at (enc:=enc) (C:=Tryz.checked) false (lI os) #[.slice none 0 0] rfl (by kernel_rfl) (by kernel_rfl) (by kernel_rfl)
   (OpenSpec.preRow_of_cond 8 hx (by kernel_rfl) (fun k hk=>by cases hk) (by kernel_rfl) (vN os))) ?_
 intro W base args ds gs before hval hW _ _ _ hL _ _
 exact contract H enc W base args ds gs before hval hW hL
theorem said:Rows.ParseParenthesesSaid:=
 OpenClaim.holds_of_cond 7 Tryz.f7 rfl rfl rfl rfl rfl rfl rfl ⟨rfl,rfl,rfl,rfl,rfl⟩ rfl rfl rfl rfl rfl (by kernel_rfl) Tryz.func7 (by kernel_rfl)
  (of_decide_eq_true (by kernel_rfl)) (by unfold Func.isWrapper; first | (rw [if_pos (by decide +kernel)]; kernel_rfl) | (rw [if_neg (by decide +kernel)]; exact ⟨rfl,rfl⟩))
  (fun os started H enc _ F=>by rw [OpenClaim.pre_eq_preRow]; exact lifted os started H enc F)
theorem plain (f:FuncId) (fn:Func) (hf:Tryz.pinned.checked.prog.funcNamed Rows.parseParenthesesRow.func=some f) (hfn:Tryz.pinned.checked.prog.funcs[f]? =some fn):
 true=Tryz.pinned.checked.prog.looks []∧ ∀(j:Nat) t,fn.params[j]? =some t→Tryz.pinned.checked.prog.wantsStandIn t=false:=by
 obtain rfl:f=7:=Option.some.inj ((show Tryz.prog.funcNamed Rows.parseParenthesesRow.func=some 7 by kernel_rfl).symm.trans hf) |>.symm
 obtain rfl:fn=Tryz.f7:=(Option.some.inj (Tryz.func7.symm.trans hfn)).symm
 refine ⟨by kernel_rfl,fun j t ht=> ?_⟩
 rw [Tryz.params7] at ht
 have hm:=Array.mem_of_getElem? ht
 simp only [List.mem_toArray,List.mem_cons,List.not_mem_nil,or_false] at hm
 rcases hm with rfl
 ·exact (show Tryz.prog.wantsStandIn 22=false by kernel_rfl)
theorem card:Rows.ParseParenthesesCardSaid:=
 Claim7.holds_tied_plain_at .later [] _ _ _ _ said (fun _ h=>by cases h) (by kernel_rfl) (fun _ h=>by cases h) parseParentheses_row_tie rfl ⟨rfl,rfl⟩ (by kernel_rfl) rfl plain (by kernel_rfl)
end Go.Proofs.YtehnipchbmjlhaaGreatDoor.parseParentheses
