/- The walk of the law CompileValid. And what hangs on it. -/
import Derived.Test.YtgjmahnblcajbaaGreatDoorGVE
import Derived.Test.YtgjmahnblcajbaaGreatDoorGVS
import Derived.Test.YtgjmahnblcajbaaGreatDoorGVO
import Derived.Test.YtgjmahnblcajbaaGreatDoorGPQ
import Derived.SizedLaws
import Derived.Lib.Hide
set_option linter.unusedSimpArgs false
set_option linter.unusedVariables false
set_option maxHeartbeats 40000000
set_option maxRecDepth 1000000
section
namespace Go.Proofs.YtgjmahnblcajbaaGreatDoor
open Go.RowKit
open Md
theorem Ze {i:aQ} (h:KR i): ∀r ∈ dx i,bV r:=by
 obtain ⟨-,ha,hb,hc,-,-⟩:=h;intro r hr;unfold dx at hr;revert hr
 repeat' split
 all_goals intro hr;simp only [List.mem_cons,List.not_mem_nil,or_false] at hr
 all_goals first | (exact absurd hr (by decide)) | (rcases hr with rfl | rfl | rfl <;> assumption) | (rcases hr with rfl | rfl <;> assumption) | (subst hr; assumption) | (exact hr.elim)
theorem FB (D:Wo) (s:gW) (l:List qJ) (ao:Option Addr) (cap:Nat) (w:World) (hat:dR w w.heap.size D s) (hi:N7 D) (htc:mg w w.heap.size l ao 0) (hl:l.length<=maxLen) (hin: ∀t ∈ l,∀i ∈ t.is,KR i) (dH:cB w):
 Calls Tryz.prog 4 #[.agg #[.slice s.aC D.cs.length s.cC,.slice s.aL D.ls.length s.cL,.slice s.aN D.ns.length s.cN,.slice s.aF D.fs.length s.cF,.slice s.aT D.ts.length s.cT,.slice s.aS D.ss.length s.cS,.slice ao l.length cap]] w fun e w'=>e= .returned (.bool true)∧Below w.heap.size w w':=by
 have HAT:=ah hat;have HK:aj (Al D):=ah ⟨fun c hc=>(hi.cs c hc).1,fun c hc=>hi.ls c hc,fun c hc=>(hi.ns c hc).1⟩;have HTC:=ah htc;have HL:=ah hl;have HI:aj (∀t ∈ l,∀i ∈ t.is,∀r ∈ dx i,bV r):=ah (fun t ht i hi=>Ze (hin t ht i hi));have gV:=ah dH;obtain ⟨b,HB⟩: ∃b,aj (A9 D l=b):=⟨_,ah rfl⟩;clear hat hi dH htc hl hin;cases b
 all_goals
  go_enter Tryz.func4,Tryz.ntmps4;go_upto_region 1 with fail;obtain ⟨nb,hnb⟩: ∃n,w.heap.size=n:=⟨_,rfl⟩;generalize hW:World.alloc w _=W1;have HB1:aj (Below w.heap.size w W1):=ah (by rw [<- hW]; exact au _ _);have HX:aj (W1.heap[nb]? =some (.cells #[.slice s.aC D.cs.length s.cC,.slice s.aL D.ls.length s.cL,.slice s.aN D.ns.length s.cN,.slice s.aF D.fs.length s.cF,.slice s.aT D.ts.length s.cT,.slice s.aS D.ss.length s.cS,.slice ao l.length cap] 33 (0,0))):=ah (by rw [<- hW,<- hnb]; exact heap_alloc_new _ _);rw [hnb];clear hW hnb;have hlt:=(Array.getElem?_eq_some_iff.1 HX.o).1;obtain ⟨T,F,GA,hst,hF,hnext⟩:=calm W1;have HF:=ah hF;have eY:=ah hnext;have uJ:=ah (fun x=>(HAT.o.same HB1.o).same (HF.o x));have QZ:=ah (fun x=>F4 (F4 HTC.o HB1.o) (HF.o x));have CG:=ah (fun x=>gV.o.same (HB1.o.trans ((HF.o x).mono HB1.o.size)));have G0:=fun x=>((HF.o x).cell (p:=⟨nb,0,none⟩) hlt).trans (ak (j:=0) HX.o rfl);have G1:=fun x=>((HF.o x).cell (p:=⟨nb,1,none⟩) hlt).trans (ak (j:=1) HX.o rfl);have G2:=fun x=>((HF.o x).cell (p:=⟨nb,2,none⟩) hlt).trans (ak (j:=2) HX.o rfl);have G3:=fun x=>((HF.o x).cell (p:=⟨nb,3,none⟩) hlt).trans (ak (j:=3) HX.o rfl);have G4:=fun x=>((HF.o x).cell (p:=⟨nb,4,none⟩) hlt).trans (ak (j:=4) HX.o rfl);have G5:=fun x=>((HF.o x).cell (p:=⟨nb,5,none⟩) hlt).trans (ak (j:=5) HX.o rfl);have G6:=fun x=>((HF.o x).cell (p:=⟨nb,6,none⟩) hlt).trans (ak (j:=6) HX.o rfl);simp only [List.getElem_toArray,List.getElem_cons_zero,List.getElem_cons_succ] at G0 G1 G2 G3 G4 G5 G6;clear hF hnext hlt;refine jo F (by kernel_rfl) (by kernel_rfl) hst ?_
  repeat (any_goals (first | go_big_quiet_step ((first | (go_at_call 9; refine (Hg lW D s l ao cap _ (uJ.o _) (CG.o _) HK.o (QZ.o _) HL.o HI.o).mono ?_; rw [HB.o]; rintro e w' ⟨rfl,hb⟩; exact ⟨rfl,eY.o _ _ hb⟩) | (go_at_call 10; refine (Jg D s l ao cap _ (uJ.o _) HK.o (QZ.o _) HL.o HI.o).mono ?_; rw [HB.o]; rintro e w' ⟨rfl,hb⟩; exact ⟨rfl,eY.o _ _ hb⟩) | (go_at_call 8; refine (Ap _ (CG.o _)).mono ?_; rintro e w' ⟨rfl,hb⟩; exact ⟨rfl,eY.o _ _ hb⟩))) | (refine wpQuiet_step (fun K hK=> ?_); go_simp; first | (refine hK _ ?_; clear hK K) | (split <;> first | (refine hK _ ?_; clear hK K) | (apply Exists.intro; refine ⟨fun _=> ?_,hK _ ?_⟩; ((first | (go_at_call 9; refine (Hg lW D s l ao cap _ (uJ.o _) (CG.o _) HK.o (QZ.o _) HL.o HI.o).mono ?_; rw [HB.o]; rintro e w' ⟨rfl,hb⟩; exact ⟨rfl,eY.o _ _ hb⟩) | (go_at_call 10; refine (Jg D s l ao cap _ (uJ.o _) HK.o (QZ.o _) HL.o HI.o).mono ?_; rw [HB.o]; rintro e w' ⟨rfl,hb⟩; exact ⟨rfl,eY.o _ _ hb⟩) | (go_at_call 8; refine (Ap _ (CG.o _)).mono ?_; rintro e w' ⟨rfl,hb⟩; exact ⟨rfl,eY.o _ _ hb⟩))); clear hK K)))))
  all_goals (refine wpQuiet_nil ?_; rintro _ ⟨x,rfl⟩)
  go_wp2_with fail;go_ret;exact ⟨rfl,HB1.o.trans ((HF.o x).mono HB1.o.size)⟩
end Go.Proofs.YtgjmahnblcajbaaGreatDoor
end
section
namespace Go.Proofs.YtgjmahnblcajbaaGreatDoor.compileValid
open Go.ChangeShapes Go.WideShapes Go.ChangeAt Go.RowKit
open Go.WideMaps Go.WideElems
open Go.ChangeMaps (open_string shut_string)
theorem keywords {W:World} (h:laidMetH Tryz.prog Rows.compileValidRow.laid W):cB W:=
 J7 (by kernel_rfl) (laidMet.tail (laidMet.tail (laidMet.tail (laidMet.tail (laidMet.tail (laidMet.tail (show laidMet Tryz.prog Rows.compileValidRow.laid W from h)))))))
theorem contract (H:Type) (enc:TypeId × Value->H) (W:World) (base:Nat) (args:Array Value) (ds gs:List (DataW H)) (before:List MemPlace)
 (hval: ∀(j:Nat) t v,Tryz.f4.params[j]? =some t->args[j]? =some v->Value.okWide Tryz.prog W .any base t v)
 (hW:DataW.Whole enc Tryz.prog Tryz.f4.params.toList Rows.compileValidSpec.vars false W args.toList ds gs before) (hL:laidMetH Tryz.prog Rows.compileValidRow.laid W) (hwt:(DataW.weightsEach Tryz.prog (Tryz.f4.params.toList++(OpenSpec.ofChange Rows.compileValidSpec).bare.plain.varTypes Tryz.prog) (ds++gs)).all (· <=reachBytes)=true):
 Calls Tryz.prog 4 args W fun e W'=> ∃v,e= .returned v∧Rows.compileValidSpec.post enc Tryz.prog Tryz.f4 false true false false W args v W':=by
 have hW':=hW;obtain ⟨p,q,NI,hV,rfl,hfz,hnd⟩:=hW;have hA:DataW.TrodAll enc Tryz.prog W 0 (fun _=>true) true Tryz.f4.params.toList args.toList ds p:=NI;rw [Tryz.params4] at hA hval;obtain ⟨v0,vs0,d0,ds0,p0,q0,hargs,rfl,rfl,h0,r0⟩:=trodAll_cons hA;obtain ⟨rfl,rfl,rfl⟩:=trodAll_nil r0;obtain rfl:args= #[v0]:=by cases args; simp_all
 obtain ⟨rfl,rfl⟩:=trodVars_none hV;have hk0:=h0;have aV: ∀x ∈ p0,x.block < W.heap.size:=fun x hx=>by have:=hW'.lt x; simp [hx] at this; exact this
 obtain ⟨D0,s0,l0,aI0,as8,rfl,WH,hi0,aM2,aM4,aM3⟩:=UK (hval 0 33 v0 rfl rfl) h0 (fun m hm=>by simpa using List.all_eq_true.1 hwt m (DataW.weights_mem_each (j:=0) (by rw [Tryz.params4]; rfl) rfl m hm));clear NI;simp only [List.append_nil] at hW';refine (FB D0 s0 l0 aI0 as8 W WH hi0 aM2 aM4 aM3 (keywords hL)).mono fun e W' ⟨he,hg⟩=> ?_;subst he;exact ⟨_,rfl,_,_,_,[],_,[],hW',trodAll_cons_mk (shut_bool Tryz.underlying4 _) trodAll_mk0,(trodAll_cons_mk (Below.trod Tryz.laidOut (by kernel_rfl) (of_decide_eq_true (by kernel_rfl)) hk0 hg aV) trodAll_mk0),rfl,hg.frame _,fun h=>by cases h⟩
theorem GI (os:Os):laidMet Tryz.prog Rows.compileValidRow.laid ((uz os).forCall (fun _ _=>0) ⟨#[],#[.agg #[.slice none 0 0,.slice none 0 0,.slice none 0 0,.slice none 0 0,.slice none 0 0,.slice none 0 0,.slice none 0 0]],[]⟩).memory:=
 laidMet_of_run' 8 (by kernel_rfl) (by kernel_rfl)
theorem reads (os:Os) {H:Type} (enc:TypeId × Value->H): ∃places,DataW.whole enc Tryz.prog ((uz os).forCall (fun _ _=>0) ⟨#[],#[.agg #[.slice none 0 0,.slice none 0 0,.slice none 0 0,.slice none 0 0,.slice none 0 0,.slice none 0 0,.slice none 0 0]],[]⟩).memory Tryz.f4.params.toList Rows.compileValidSpec.vars false (#[.agg #[.slice none 0 0,.slice none 0 0,.slice none 0 0,.slice none 0 0,.slice none 0 0,.slice none 0 0,.slice none 0 0]]:Array Value).toList 8=some ([.agg [.agg [.nil,.nil,.nil,.nil,.nil,.nil],.nil]],[],places):=
 ⟨[],by kernel_rfl⟩
theorem lifted (os:Os) (started:os.Started) (H:Type) (enc:TypeId × Value->H) (F:Stop.Interp):
 ReturnsInHanded {} Tryz.checked os 4 .any ((OpenSpec.ofChange Rows.compileValidSpec).preRow enc Tryz.prog Tryz.f4 Rows.compileValidRow.domain false Rows.compileValidRow.laid) (((OpenSpec.ofChange Rows.compileValidSpec).at F).post enc Tryz.prog Tryz.f4 false true false false):=by
 obtain ⟨places,hx⟩:=reads os enc;refine returnsInHanded_of_row (C:=Tryz.checked) (s:=OpenSpec.ofChange Rows.compileValidSpec) own started (by kernel_rfl) Tryz.func4
  (witness_row_at (enc:=enc) (C:=Tryz.checked) false (uz os) #[.agg #[.slice none 0 0,.slice none 0 0,.slice none 0 0,.slice none 0 0,.slice none 0 0,.slice none 0 0,.slice none 0 0]] rfl (by kernel_rfl) (by kernel_rfl) (by kernel_rfl)
   (OpenSpec.preRow_of_cond 8 hx (by kernel_rfl) (fun k hk=>by cases hk) (by kernel_rfl) (GI os))) ?_
 intro W base args ds gs before hval hW _ _ hwt hL _ _;exact contract H enc W base args ds gs before hval hW hL hwt
theorem said:Rows.CompileValidSaid:=
 OpenClaim.holds_of_cond 4 Tryz.f4 rfl rfl rfl rfl rfl rfl rfl ⟨rfl,rfl,rfl,rfl,rfl⟩ rfl rfl rfl rfl rfl (by kernel_rfl) Tryz.func4 (by kernel_rfl)
  (of_decide_eq_true (by kernel_rfl)) (by unfold Func.isWrapper; first | (rw [if_pos (by decide +kernel)]; kernel_rfl) | (rw [if_neg (by decide +kernel)]; exact ⟨rfl,rfl⟩))
  (fun os started H enc _ F=>by rw [OpenClaim.pre_eq_preRow]; exact lifted os started H enc F)
theorem plain (f:FuncId) (fn:Func) (hf:Tryz.pinned.checked.prog.funcNamed Rows.compileValidRow.func=some f) (hfn:Tryz.pinned.checked.prog.funcs[f]? =some fn):
 true=Tryz.pinned.checked.prog.looks []∧ ∀(j:Nat) t,fn.params[j]? =some t->Tryz.pinned.checked.prog.wantsStandIn t=false:=by
 obtain rfl:f=4:=Option.some.inj ((show Tryz.prog.funcNamed Rows.compileValidRow.func=some 4 by kernel_rfl).symm.trans hf) |>.symm;obtain rfl:fn=Tryz.f4:=(Option.some.inj (Tryz.func4.symm.trans hfn)).symm;refine ⟨by kernel_rfl,fun j t ht=> ?_⟩;rw [Tryz.params4] at ht;have hm:=Array.mem_of_getElem? ht;simp only [List.mem_toArray,List.mem_cons,List.not_mem_nil,or_false] at hm;rcases hm with rfl
 ·exact (show Tryz.prog.wantsStandIn 33=false by kernel_rfl)
theorem card:Rows.CompileValidCardSaid:=
 Claim7.holds_tied_plain_at .later [] _ _ _ _ said (fun _ h=>by cases h) (by kernel_rfl) (fun _ h=>by cases h) compileValid_row_tie rfl ⟨rfl,rfl⟩ (by kernel_rfl) rfl plain (by kernel_rfl)
end Go.Proofs.YtgjmahnblcajbaaGreatDoor.compileValid
end
