/- The walk of the law ParseShapesNear. And what hangs on it. -/
import Derived.Test.YtkajcclnlehkmaaGreatDoorGPA
import Derived.Test.YtkajcclnlehkmaaGreatDoorGSH
import Derived.Test.YtkajcclnlehkmaaGreatDoorGMX
import Derived.Test.YtkajcclnlehkmaaGreatDoorGMZ
import Derived.Test.YtkajcclnlehkmaaGreatDoorGMY
import Derived.Test.YtkajcclnlehkmaaGreatDoorGPQ
import Derived.SizedLaws
import Derived.Lib.Hide
import Derived.Test.YtkajcclnlehkmaaGreatDoorGVO
set_option linter.unusedSimpArgs false
set_option linter.unusedVariables false
set_option maxHeartbeats 40000000
set_option maxRecDepth 1000000
section
namespace Go.Proofs.YtkajcclnlehkmaaGreatDoor
open Go.RowKit
open Md Pz
theorem bounds_u8 {a:Int} (h:(Lit.int .u8 a).wf=true): ∃n:Nat,a=n∧n<=255:=by
 simp [Lit.wf,IntKind.min,IntKind.max,IntKind.signed,IntKind.bits] at h;exact ⟨a.toNat,by omega,by omega⟩
theorem bounds_i64 {a:Int} (h:(Lit.int .i64 a).wf=true):aD a:=by
 simp [Lit.wf,IntKind.min,IntKind.max,IntKind.signed,IntKind.bits] at h;unfold aD; omega
theorem sZ (ao:Option Addr) (len cap:Nat) (zs:List Int) (hlen:zs.length=len) (hcap:len<=maxLen) (a:Int) (wa:(Lit.int .u8 a).wf=true) (f:Int) (wf:(Lit.int .u8 f).wf=true) (n:Int) (wn:(Lit.int .i64 n).wf=true) (s:ByteArray) (hs:s.size<=maxLen) (w:World) (hz:Aa w w.heap.size zs ao) (gK:dx w):
 Calls Tryz.prog 3 #[.slice ao len cap,.int .u8 a,.int .u8 f,.int .i64 n,.string s] w fun e w'=>e= .returned (.bool true)∧Below w.heap.size w w':=by
 subst hlen;have HZ:=ah hz;have kF:=ah gK;obtain ⟨a,rfl,ha⟩:=bounds_u8 wa;obtain ⟨f,rfl,hf⟩:=bounds_u8 wf;have HI:=ah (bounds_i64 wn);have HS:=ah hs;unfold maxLen at hcap;have UO:IntKind.i64.wrap (a:Int)=(a:Int):=IntWalk.i64_in _ (by omega);have hwf:IntKind.i64.wrap (f:Int)=(f:Int):=IntWalk.i64_in _ (by omega);clear hz gK wa wf wn hs;by_cases Us:300 < zs.length
 ·go_enter Tryz.func3,Tryz.ntmps3;go_wp2_with fail;go_ret;exact ⟨rfl,Below.refl _ _⟩
 ·go_enter Tryz.func3,Tryz.ntmps3;go_wp2_with fail;refine (Gw w zs ao cap HZ.o (by omega)).mono ?_;rintro e w1 ⟨p,aT,aZ,aM,aN,rfl,⟨hT,hN⟩,⟨hsh,h5,hwt⟩,hb⟩;have HB1:=ah hb;have HT:=ah hT;have HN:=ah hN;have wL:=ah hsh;have Ee:=ah hwt;clear hb hT hN hsh hwt;go_upto_region 4 with fail;have qH:aj (Below w.heap.size w (w1.alloc (.cells #[.slice aT p.ds.length aM,.slice aZ p.ts.length aN] 26))):=ah (HB1.o.trans ((ak w1 _).mono HB1.o.size));have wO:=ah (HT.o.below (ak w1 (.cells #[.slice aT p.ds.length aM,.slice aZ p.ts.length aN] 26)));have QN:=ah (uo.below (ak w1 (.cells #[.slice aT p.ds.length aM,.slice aZ p.ts.length aN] 26)) HT.o.2.2.2 HN.o);have iM:=ah (heap_alloc_new w1 (.cells #[.slice aT p.ds.length aM,.slice aZ p.ts.length aN] 26));generalize hb:w1.heap.size=pb at *;generalize hW:World.alloc w1 _=w2 at *;have c0:w2.cell? ⟨pb,0,none⟩=some (.slice aT p.ds.length aM):=au iM.o rfl;have c1:w2.cell? ⟨pb,1,none⟩=some (.slice aZ p.ts.length aN):=au iM.o rfl;clear hW HT HN;go_wp2_with fail;refine (pz p w2 aT aZ aM aN wO.o.at.1 (kF.o.same qH.o)).mono ?_;rintro e w3 ⟨rfl,hb3⟩;rw [wL.o];have HB3:aj (Below w.heap.size w w3):=ah (qH.o.trans (hb3.mono qH.o.size));have HC:=ah (Fu p w.heap.size pb aT aZ aM aN w3 a f n s (wO.o.below hb3) (uo.below hb3 wO.o.2.2.2 QN.o) ((hb3.block pb (Array.getElem?_eq_some_iff.1 iM.o).1).trans iM.o) ha hf HI.o HS.o (by have:=wL.o; simp [oK] at this; omega) ⟨Ee.o.1,by omega,fun t ht=>⟨by have:=(Ee.o.2 t ht).1; omega,(Ee.o.2 t ht).2⟩⟩);have MR:=ah ((hb3.block pb (Array.getElem?_eq_some_iff.1 iM.o).1).trans iM.o);clear hb3 wO QN iM qH HB1 c0 c1;go_wp2_with fail;refine HC.o.mono ?_;rintro e w4 ⟨rfl,⟨p',e1,e2,hp'⟩,hb4,hbx⟩;have bT:aj (Below w.heap.size w w4):=ah (HB3.o.trans hb4);have F6:=ah (hbx pb _ MR.o);have wN:=ah hp'.at.1;have c0:w4.cell? ⟨pb,0,none⟩=some (.slice aT p'.ds.length aM):=by rw [e1]; exact au F6.o rfl
  have c1:w4.cell? ⟨pb,1,none⟩=some (.slice aZ p'.ts.length aN):=by rw [e2]; exact au F6.o rfl
  have F7:=ah (kF.o.same bT.o);clear hb4 hbx hp' HC HB3 MR kF e1 e2;go_upto_region 7 with fail;have HX:aj (Sit w w4 [(pb,0,.slice aT p'.ds.length aM),(pb,1,.slice aZ p'.ts.length aN)]):=ah ⟨bT.o,⟨(Array.getElem?_eq_some_iff.1 F6.o).1,c0⟩,⟨(Array.getElem?_eq_some_iff.1 F6.o).1,c1⟩,trivial⟩;obtain ⟨b,HB⟩: ∃b,aj (oK p'=b):=⟨_,ah rfl⟩;clear c0 c1;cases b
  all_goals
   obtain ⟨T,F,T9,hst,hF,hnext⟩:=calm w4;have HF:=ah hF;have kG:=ah hnext;clear hnext hF;have d0:=fun x=>(HX.o.next (HF.o x)).2.1.2;have d1:=fun x=>(HX.o.next (HF.o x)).2.2.1.2;refine wX F (by kernel_rfl) (by kernel_rfl) hst ?_
   repeat (any_goals (first | go_big_quiet_step ((first | (go_at_call 5; refine (pz p' _ aT aZ aM aN (wN.o.same (HF.o _)) (F7.o.same (HF.o _))).mono ?_; rw [HB.o]; rintro e w' ⟨rfl,hb⟩; exact ⟨rfl,kG.o _ _ hb⟩) | (go_at_call 7; refine (um p' _ aT aZ aM aN (wN.o.same (HF.o _))).mono ?_; rw [HB.o]; rintro e w' ⟨rfl,hb⟩; exact ⟨rfl,kG.o _ _ hb⟩) | (go_at_call 8; refine (Ao _ (F7.o.same (HF.o _))).mono ?_; rintro e w' ⟨rfl,hb⟩; exact ⟨rfl,kG.o _ _ hb⟩))) | (refine wpQuiet_step (fun K hK=> ?_); go_simp; first | (refine hK _ ?_; clear hK K) | (split <;> first | (refine hK _ ?_; clear hK K) | (apply Exists.intro; refine ⟨fun _=> ?_,hK _ ?_⟩; ((first | (go_at_call 5; refine (pz p' _ aT aZ aM aN (wN.o.same (HF.o _)) (F7.o.same (HF.o _))).mono ?_; rw [HB.o]; rintro e w' ⟨rfl,hb⟩; exact ⟨rfl,kG.o _ _ hb⟩) | (go_at_call 7; refine (um p' _ aT aZ aM aN (wN.o.same (HF.o _))).mono ?_; rw [HB.o]; rintro e w' ⟨rfl,hb⟩; exact ⟨rfl,kG.o _ _ hb⟩) | (go_at_call 8; refine (Ao _ (F7.o.same (HF.o _))).mono ?_; rintro e w' ⟨rfl,hb⟩; exact ⟨rfl,kG.o _ _ hb⟩))); clear hK K)))))
   all_goals (refine wpQuiet_nil ?_; rintro _ ⟨x,rfl⟩)
   go_wp2_with fail;go_ret;exact ⟨rfl,bT.o.trans ((HF.o x).mono bT.o.size)⟩
end Go.Proofs.YtkajcclnlehkmaaGreatDoor
end
section
namespace Go.Proofs.YtkajcclnlehkmaaGreatDoor.parseShapesNear
open Go.ChangeShapes Go.WideShapes Go.ChangeAt Go.RowKit
open Go.WideMaps Go.WideElems
open Go.ChangeMaps (open_string shut_string)
theorem keywords {W:World} (h:laidMetH Tryz.prog Rows.parseShapesNearRow.laid W):dx W:=
 FE (by kernel_rfl) (laidMet.tail (laidMet.tail (laidMet.tail (laidMet.tail (laidMet.tail (laidMet.tail (show laidMet Tryz.prog Rows.parseShapesNearRow.laid W from h)))))))
theorem contract (H:Type) (enc:TypeId × Value->H) (W:World) (base:Nat) (args:Array Value) (ds gs:List (DataW H)) (before:List MemPlace)
 (hval: ∀(j:Nat) t v,Tryz.f3.params[j]? =some t->args[j]? =some v->Value.okWide Tryz.prog W .any base t v)
 (hW:DataW.Whole enc Tryz.prog Tryz.f3.params.toList Rows.parseShapesNearSpec.vars false W args.toList ds gs before) (hL:laidMetH Tryz.prog Rows.parseShapesNearRow.laid W):
 Calls Tryz.prog 3 args W fun e W'=> ∃v,e= .returned v∧Rows.parseShapesNearSpec.post enc Tryz.prog Tryz.f3 false true false false W args v W':=by
 have hW':=hW;obtain ⟨p,q,Hl,hV,rfl,hfz,hnd⟩:=hW;have hA:DataW.TrodAll enc Tryz.prog W 0 (fun _=>true) true Tryz.f3.params.toList args.toList ds p:=Hl;rw [Tryz.params3] at hA hval;obtain ⟨v0,UU,d0,ds0,p0,q0,hargs,rfl,rfl,h0,r0⟩:=trodAll_cons hA;obtain ⟨v1,vs1,d1,ds1,p1,q1,rfl,rfl,rfl,h1,r1⟩:=trodAll_cons r0;obtain ⟨v2,vs2,d2,UF,p2,q2,rfl,rfl,rfl,h2,r2⟩:=trodAll_cons r1;obtain ⟨v3,vs3,d3,ds3,p3,q3,rfl,rfl,rfl,h3,r3⟩:=trodAll_cons r2;obtain ⟨v4,UW,d4,UG,p4,q4,rfl,rfl,rfl,h4,r4⟩:=trodAll_cons r3;obtain ⟨rfl,rfl,rfl⟩:=trodAll_nil r4;obtain rfl:args= #[v0,v1,v2,v3,v4]:=by cases args; simp_all
 obtain ⟨rfl,rfl⟩:=trodVars_none hV;have hk0:=h0;have FC: ∀x ∈ p0,x.block < W.heap.size:=fun x hx=>by have:=hW'.lt x; simp [hx] at this; exact this
 obtain ⟨TW,Ti,cap0,zs0,rfl,Qj,hcap0,hz0⟩:=GK (hval 0 22 v0 rfl rfl) h0 FC;obtain ⟨x1,rfl,rfl,rfl,RU⟩:=open_int Tryz.underlying5 (hval 1 5 v1 rfl rfl) h1;obtain ⟨x2,rfl,rfl,rfl,RV⟩:=open_int Tryz.underlying5 (hval 2 5 v2 rfl rfl) h2;obtain ⟨x3,rfl,rfl,rfl,RX⟩:=open_int Tryz.underlying2 (hval 3 2 v3 rfl rfl) h3;obtain ⟨s4,rfl,rfl,rfl,hs4⟩:=open_string Tryz.underlying9 (hval 4 9 v4 rfl rfl) h4;clear Hl;simp only [List.append_nil] at hW';refine (sZ TW Ti cap0 zs0 Qj hcap0 x1 RU x2 RV x3 RX s4 hs4 W hz0 (keywords hL)).mono fun e W' ⟨he,hg⟩=> ?_;subst he;exact ⟨_,rfl,_,_,_,[],_,[],hW',trodAll_cons_mk (shut_bool Tryz.underlying4 _) trodAll_mk0,(trodAll_cons_mk (Below.trod Tryz.laidOut (by kernel_rfl) (of_decide_eq_true (by kernel_rfl)) hk0 hg FC) (trodAll_cons_mk (shut_int Tryz.underlying5 RU) (trodAll_cons_mk (shut_int Tryz.underlying5 RV) (trodAll_cons_mk (shut_int Tryz.underlying2 RX) (trodAll_cons_mk (shut_string Tryz.underlying9 hs4) trodAll_mk0))))),rfl,hg.frame _,fun h=>by cases h⟩
theorem JF (os:Os):laidMet Tryz.prog Rows.parseShapesNearRow.laid ((vI os).forCall (fun _ _=>0) ⟨#[],#[.slice none 0 0,.int .u8 0,.int .u8 0,.int .i64 0,.string ⟨#[]⟩],[]⟩).memory:=
 laidMet_of_run' 8 (by kernel_rfl) (by kernel_rfl)
theorem reads (os:Os) {H:Type} (enc:TypeId × Value->H): ∃places,DataW.whole enc Tryz.prog ((vI os).forCall (fun _ _=>0) ⟨#[],#[.slice none 0 0,.int .u8 0,.int .u8 0,.int .i64 0,.string ⟨#[]⟩],[]⟩).memory Tryz.f3.params.toList Rows.parseShapesNearSpec.vars false (#[.slice none 0 0,.int .u8 0,.int .u8 0,.int .i64 0,.string ⟨#[]⟩]:Array Value).toList 8=some ([.nil,.lit (.int .u8 0),.lit (.int .u8 0),.lit (.int .i64 0),.lit (.string [])],[],places):=
 ⟨[],by kernel_rfl⟩
theorem lifted (os:Os) (started:os.Started) (H:Type) (enc:TypeId × Value->H) (F:Stop.Interp):
 ReturnsInHanded {} Tryz.checked os 3 .any ((OpenSpec.ofChange Rows.parseShapesNearSpec).preRow enc Tryz.prog Tryz.f3 Rows.parseShapesNearRow.domain false Rows.parseShapesNearRow.laid) (((OpenSpec.ofChange Rows.parseShapesNearSpec).at F).post enc Tryz.prog Tryz.f3 false true false false):=by
 obtain ⟨places,hx⟩:=reads os enc;refine returnsInHanded_of_row (C:=Tryz.checked) (s:=OpenSpec.ofChange Rows.parseShapesNearSpec) own started (by kernel_rfl) Tryz.func3
  (witness_row_at (enc:=enc) (C:=Tryz.checked) false (vI os) #[.slice none 0 0,.int .u8 0,.int .u8 0,.int .i64 0,.string ⟨#[]⟩] rfl (by kernel_rfl) (by kernel_rfl) (by kernel_rfl)
   (OpenSpec.preRow_of_cond 8 hx (by kernel_rfl) (fun k hk=>by cases hk) (by kernel_rfl) (JF os))) ?_
 intro W base args ds gs before hval hW _ _ _ hL _ _;exact contract H enc W base args ds gs before hval hW hL
theorem said:Rows.ParseShapesNearSaid:=
 OpenClaim.holds_of_cond 3 Tryz.f3 rfl rfl rfl rfl rfl rfl rfl ⟨rfl,rfl,rfl,rfl,rfl⟩ rfl rfl rfl rfl rfl (by kernel_rfl) Tryz.func3 (by kernel_rfl)
  (of_decide_eq_true (by kernel_rfl)) (by unfold Func.isWrapper; first | (rw [if_pos (by decide +kernel)]; kernel_rfl) | (rw [if_neg (by decide +kernel)]; exact ⟨rfl,rfl⟩))
  (fun os started H enc _ F=>by rw [OpenClaim.pre_eq_preRow]; exact lifted os started H enc F)
theorem plain (f:FuncId) (fn:Func) (hf:Tryz.pinned.checked.prog.funcNamed Rows.parseShapesNearRow.func=some f) (hfn:Tryz.pinned.checked.prog.funcs[f]? =some fn):
 true=Tryz.pinned.checked.prog.looks []∧ ∀(j:Nat) t,fn.params[j]? =some t->Tryz.pinned.checked.prog.wantsStandIn t=false:=by
 obtain rfl:f=3:=Option.some.inj ((show Tryz.prog.funcNamed Rows.parseShapesNearRow.func=some 3 by kernel_rfl).symm.trans hf) |>.symm;obtain rfl:fn=Tryz.f3:=(Option.some.inj (Tryz.func3.symm.trans hfn)).symm;refine ⟨by kernel_rfl,fun j t ht=> ?_⟩;rw [Tryz.params3] at ht;have hm:=Array.mem_of_getElem? ht;simp only [List.mem_toArray,List.mem_cons,List.not_mem_nil,or_false] at hm;rcases hm with rfl | rfl | rfl | rfl | rfl
 ·exact (show Tryz.prog.wantsStandIn 22=false by kernel_rfl)
 ·exact (show Tryz.prog.wantsStandIn 5=false by kernel_rfl)
 ·exact (show Tryz.prog.wantsStandIn 5=false by kernel_rfl)
 ·exact (show Tryz.prog.wantsStandIn 2=false by kernel_rfl)
 ·exact (show Tryz.prog.wantsStandIn 9=false by kernel_rfl)
theorem card:Rows.ParseShapesNearCardSaid:=
 Claim7.holds_tied_plain_at .later [] _ _ _ _ said (fun _ h=>by cases h) (by kernel_rfl) (fun _ h=>by cases h) parseShapesNear_row_tie rfl ⟨rfl,rfl⟩ (by kernel_rfl) rfl plain (by kernel_rfl)
end Go.Proofs.YtkajcclnlehkmaaGreatDoor.parseShapesNear
end
