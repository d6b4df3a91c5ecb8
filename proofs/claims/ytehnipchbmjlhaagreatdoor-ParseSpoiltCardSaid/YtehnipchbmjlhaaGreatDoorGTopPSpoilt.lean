/-
  The law ParseSpoilt holds: for every input the call returns true and the arguments read as before (the tied card).
  Conditions: the listed package-level variables start as the program lays them.
-/
import Derived.Test.YtehnipchbmjlhaaGreatDoorGPaLaid
import Derived.Test.YtehnipchbmjlhaaGreatDoorGLawPSpoilt
import Derived.SizedLaws
import Derived.Lib.Hide
import Derived.Test.YtehnipchbmjlhaaGreatDoorGMS
set_option linter.unusedSimpArgs false
set_option linter.unusedVariables false
set_option maxHeartbeats 40000000
set_option maxRecDepth 1000000
namespace Go.Proofs.YtehnipchbmjlhaaGreatDoor.parseSpoilt
open Go.ChangeShapes Go.WideShapes Go.ChangeAt Go.RowKit
open Go.WideMaps Go.WideElems
open Go.ChangeMaps (open_string shut_string)
theorem keywords {W:World} (h:laidMetH Tryz.prog Rows.parseSpoiltRow.laid W):eT W:=
 Nu (by kernel_rfl) (laidMet.tail (laidMet.tail (laidMet.tail (laidMet.tail (laidMet.tail (laidMet.tail (show laidMet Tryz.prog Rows.parseSpoiltRow.laid W from h)))))))
theorem RL:Tryz.prog.cellsOf 171=20:=by kernel_rfl
theorem Rc:Tryz.prog.cellsOf 158=1:=by kernel_rfl
theorem powers {W:World} (h:laidMetH Tryz.prog Rows.parseSpoiltRow.laid W):kQ W:=
 Lib.tabIs_of_head (zs:=Lib.pow10Tab) aq4 (by kernel_rfl) Tryz.underlying171 Tryz.underlying158 Rc RL (laidMet.tail (laidMet.tail (show laidMet Tryz.prog Rows.parseSpoiltRow.laid W from h)))
theorem contract (H:Type) (enc:TypeId × Value→H) (W:World) (base:Nat) (args:Array Value) (ds gs:List (DataW H)) (before:List MemPlace)
 (hval: ∀(j:Nat) t v,Tryz.f5.params[j]? =some t→args[j]? =some v→Value.okWide Tryz.prog W .any base t v)
 (hW:DataW.Whole enc Tryz.prog Tryz.f5.params.toList Rows.parseSpoiltSpec.vars false W args.toList ds gs before) (hL:laidMetH Tryz.prog Rows.parseSpoiltRow.laid W):
 Calls Tryz.prog 5 args W fun e W'=> ∃v,e= .returned v∧Rows.parseSpoiltSpec.post enc Tryz.prog Tryz.f5 false true false false W args v W':=by
 have hW':=hW
 obtain ⟨p,q,hA0,hV,rfl,hfz,hnd⟩:=hW
 have hA:DataW.TrodAll enc Tryz.prog W 0 (fun _=>true) true Tryz.f5.params.toList args.toList ds p:=hA0
 rw [Tryz.params5] at hA hval
 obtain ⟨v0,vs0,d0,ds0,p0,q0,hargs,rfl,rfl,h0,r0⟩:=trodAll_cons hA
 obtain ⟨v1,vs1,d1,ds1,p1,q1,rfl,rfl,rfl,h1,r1⟩:=trodAll_cons r0
 obtain ⟨v2,vs2,d2,ds2,p2,q2,rfl,rfl,rfl,h2,r2⟩:=trodAll_cons r1
 obtain ⟨v3,vs3,d3,ds3,p3,q3,rfl,rfl,rfl,h3,r3⟩:=trodAll_cons r2
 obtain ⟨rfl,rfl,rfl⟩:=trodAll_nil r3
 obtain rfl:args= #[v0,v1,v2,v3]:=by cases args; simp_all
 obtain ⟨rfl,rfl⟩:=trodVars_none hV
 have hk0:=h0
 have zX: ∀x ∈ p0,x.block < W.heap.size:=fun x hx=>by have:=hW'.lt x; simp [hx] at this; exact this
 obtain ⟨uL,al1,cap0,zs0,rfl,ZW,hcap0,hz0⟩:=Qj (hval 0 22 v0 rfl rfl) h0 zX
 obtain ⟨x1,rfl,rfl,rfl,wx1⟩:=open_int Tryz.underlying39 (hval 1 39 v1 rfl rfl) h1
 obtain ⟨x2,rfl,rfl,rfl,wx2⟩:=open_int Tryz.underlying39 (hval 2 39 v2 rfl rfl) h2
 obtain ⟨x3,rfl,rfl,rfl,wx3⟩:=open_int Tryz.underlying5 (hval 3 5 v3 rfl rfl) h3
 clear hA0
 simp only [List.append_nil] at hW'
 refine (Db uL al1 cap0 zs0 ZW hcap0 x1 wx1 x2 wx2 x3 wx3 W hz0 (keywords hL) (powers hL)).mono fun e W' ⟨he,hg⟩=> ?_
 subst he
 exact ⟨_,rfl,_,_,_,[],_,[],hW',trodAll_cons_mk (shut_bool Tryz.underlying4 _) trodAll_mk0,(trodAll_cons_mk (Below.trod Tryz.laidOut (by kernel_rfl) (of_decide_eq_true (by kernel_rfl)) hk0 hg zX) (trodAll_cons_mk (shut_int Tryz.underlying39 wx1) (trodAll_cons_mk (shut_int Tryz.underlying39 wx2) (trodAll_cons_mk (shut_int Tryz.underlying5 wx3) trodAll_mk0)))),rfl,hg.frame _,fun h=>by cases h⟩
theorem Ta (os:Os):laidMet Tryz.prog Rows.parseSpoiltRow.laid ((BL os).forCall (fun _ _=>0) ⟨#[],#[.slice none 0 0,.int .u16 0,.int .u16 0,.int .u8 0],[]⟩).memory:=
 laidMet_of_run' 8 (by kernel_rfl) (by kernel_rfl)
theorem reads (os:Os) {H:Type} (enc:TypeId × Value→H): ∃places,DataW.whole enc Tryz.prog ((BL os).forCall (fun _ _=>0) ⟨#[],#[.slice none 0 0,.int .u16 0,.int .u16 0,.int .u8 0],[]⟩).memory Tryz.f5.params.toList Rows.parseSpoiltSpec.vars false (#[.slice none 0 0,.int .u16 0,.int .u16 0,.int .u8 0]:Array Value).toList 8=some ([.nil,.lit (.int .u16 0),.lit (.int .u16 0),.lit (.int .u8 0)],[],places):=
 ⟨[],by kernel_rfl⟩
theorem lifted (os:Os) (started:os.Started) (H:Type) (enc:TypeId × Value→H) (F:Stop.Interp):
 ReturnsInHanded {} Tryz.checked os 5 .any ((OpenSpec.ofChange Rows.parseSpoiltSpec).preRow enc Tryz.prog Tryz.f5 Rows.parseSpoiltRow.domain false Rows.parseSpoiltRow.laid) (((OpenSpec.ofChange Rows.parseSpoiltSpec).at F).post enc Tryz.prog Tryz.f5 false true false false):=by
 obtain ⟨places,hx⟩:=reads os enc
 refine returnsInHanded_of_row (C:=Tryz.checked) (s:=OpenSpec.ofChange Rows.parseSpoiltSpec) own started (by kernel_rfl) Tryz.func5
  (witness_row_at (enc:=enc) (C:=Tryz.checked) false (BL os) #[.slice none 0 0,.int .u16 0,.int .u16 0,.int .u8 0] rfl (by kernel_rfl) (by kernel_rfl) (by kernel_rfl)
   (OpenSpec.preRow_of_cond 8 hx (by kernel_rfl) (fun k hk=>by cases hk) (by kernel_rfl) (Ta os))) ?_
 intro W base args ds gs before hval hW _ _ _ hL _ _
 exact contract H enc W base args ds gs before hval hW hL
theorem said:Rows.ParseSpoiltSaid:=
 OpenClaim.holds_of_cond 5 Tryz.f5 rfl rfl rfl rfl rfl rfl rfl ⟨rfl,rfl,rfl,rfl,rfl⟩ rfl rfl rfl rfl rfl (by kernel_rfl) Tryz.func5 (by kernel_rfl)
  (of_decide_eq_true (by kernel_rfl)) (by unfold Func.isWrapper; first | (rw [if_pos (by decide +kernel)]; kernel_rfl) | (rw [if_neg (by decide +kernel)]; exact ⟨rfl,rfl⟩))
  (fun os started H enc _ F=>by rw [OpenClaim.pre_eq_preRow]; exact lifted os started H enc F)
theorem plain (f:FuncId) (fn:Func) (hf:Tryz.pinned.checked.prog.funcNamed Rows.parseSpoiltRow.func=some f) (hfn:Tryz.pinned.checked.prog.funcs[f]? =some fn):
 true=Tryz.pinned.checked.prog.looks []∧ ∀(j:Nat) t,fn.params[j]? =some t→Tryz.pinned.checked.prog.wantsStandIn t=false:=by
 obtain rfl:f=5:=Option.some.inj ((show Tryz.prog.funcNamed Rows.parseSpoiltRow.func=some 5 by kernel_rfl).symm.trans hf) |>.symm
 obtain rfl:fn=Tryz.f5:=(Option.some.inj (Tryz.func5.symm.trans hfn)).symm
 refine ⟨by kernel_rfl,fun j t ht=> ?_⟩
 rw [Tryz.params5] at ht
 have hm:=Array.mem_of_getElem? ht
 simp only [List.mem_toArray,List.mem_cons,List.not_mem_nil,or_false] at hm
 rcases hm with rfl | rfl | rfl | rfl
 ·exact (show Tryz.prog.wantsStandIn 22=false by kernel_rfl)
 ·exact (show Tryz.prog.wantsStandIn 39=false by kernel_rfl)
 ·exact (show Tryz.prog.wantsStandIn 39=false by kernel_rfl)
 ·exact (show Tryz.prog.wantsStandIn 5=false by kernel_rfl)
theorem card:Rows.ParseSpoiltCardSaid:=
 Claim7.holds_tied_plain_at .later [] _ _ _ _ said (fun _ h=>by cases h) (by kernel_rfl) (fun _ h=>by cases h) parseSpoilt_row_tie rfl ⟨rfl,rfl⟩ (by kernel_rfl) rfl plain (by kernel_rfl)
end Go.Proofs.YtehnipchbmjlhaaGreatDoor.parseSpoilt
