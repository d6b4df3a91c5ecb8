/- The law CompileWorldSpoils: it returns true for every input. And what hangs on it. -/
import Derived.Test.YtdoplekppjkkpaaGreatDoorGVA
import Derived.Test.YtdoplekppjkkpaaGreatDoorGCG
import Derived.Test.YtdoplekppjkkpaaGreatDoorGCH
import Derived.Test.YtdoplekppjkkpaaGreatDoorGVN
import Derived.Test.YtdoplekppjkkpaaGreatDoorGPQ
set_option linter.unusedSimpArgs false
set_option linter.unusedVariables false
set_option maxHeartbeats 40000000
set_option maxRecDepth 1000000
section
namespace Go.Proofs.YtdoplekppjkkpaaGreatDoor
open Go.RowKit
open Md
theorem aA4:WsC where
 made:=λw zs ao cap hz hl=>(ZN w zs ao cap hz (by unfold maxLen at hl;omega)).mono λe w' ⟨gD,gT,aG,eH,he,hO,hb⟩=>by subst he;have hm:=ax0 hO;have hfit:Fit ⟨mM,eH.map (·.t)⟩:=aL3 (by rw[hO.zero]) (λt ht=>by obtain⟨x,hx,rfl⟩:=List.mem_map.1 ht;exact(hO.F5 x hx).2.2.2);have h:=Wj ⟨mM,eH.map (·.t)⟩ w' (some ⟨gD,0,none⟩) (some ⟨gT,0,none⟩) 9 aG hO.at.1 (aB 9) (by show(eH.map (·.t)).length<=aG;rw[gH];exact hO.at.2) (by have h1:=hfit.1;have h2:=MQ (eH.map (·.t));show zm (eH.map (·.t))<=_;have h1:Ea (eH.map (·.t))<=_:=h1;omega);rw[show(⟨mM,eH.map (·.t)⟩:Pr).ts.length=eH.length from gH _]at h;exact⟨_,rfl,hb,h.mono λe w2 ⟨t,he,_,hb2,_,B,hB,hrow⟩=>⟨_,t,B,he,hm.1,hm.2,hB,hrow,hb2⟩⟩
 vw:=Fa
 rw:=Mh
 aw:=Xf
theorem Dk (ao:Option Addr) (len cap:Nat) (zs:List Int) (hlen:zs.length=len) (hcap:len<=maxLen) (a:Int) (wa:(Lit.int .u8 a).wf=true) (f:Int) (wf:(Lit.int .u8 f).wf=true) (n:Int) (wn:(Lit.int .i8 n).wf=true) (s:ByteArray) (hs:s.size<=maxLen) (w:World) (hz:FX w w.heap.size zs ao) (eG:dW w):
 Calls Tryz.prog 3 #[.slice ao len cap,.int .u8 a,.int .u8 f,.int .i8 n,.string s] w λe w'=>e= .returned (.bool true)∧Below w.heap.size w w':=by
 subst hlen;have e1:IntKind.u8.min=0:=agI
 have e2:IntKind.u8.max=255:=agI
 have e3:IntKind.i8.min= -128:=agI
 have e4:IntKind.i8.max=127:=agI
 simp[Lit.wf]at wa wf wn;obtain⟨a,rfl⟩:=Int.eq_ofNat_of_zero_le (show 0<=a by omega);obtain⟨f,rfl⟩:=Int.eq_ofNat_of_zero_le (show 0<=f by omega);exact Tc (ah aA4) ao cap zs hcap a f agH agH n agH s w hz eG
end Go.Proofs.YtdoplekppjkkpaaGreatDoor
end
section
namespace Go.Proofs.YtdoplekppjkkpaaGreatDoor.compileWorldSpoils
open Go.ChangeShapes Go.WideShapes Go.ChangeAt Go.RowKit
open Go.WideMaps Go.WideElems
open Go.ChangeMaps (open_string shut_string)
theorem keywords {W:World} (h:laidMetH Tryz.prog Rows.compileWorldSpoilsRow.laid W):dW W:=
 VH agG (laidMet.tail (laidMet.tail (laidMet.tail (laidMet.tail (laidMet.tail (laidMet.tail (show laidMet Tryz.prog Rows.compileWorldSpoilsRow.laid W from h)))))))
theorem contract (H:Type) (enc:TypeId×Value->H) (W:World) (base:Nat) (args:Array Value) (ds gs:List (DataW H)) (before:List MemPlace)
 (hval: ∀(j:Nat) t v,Tryz.f3.params[j]? =some t->args[j]? =some v->Value.okWide Tryz.prog W .any base t v)
 (hW:DataW.Whole enc Tryz.prog Tryz.f3.params.toList Rows.compileWorldSpoilsSpec.vars false W args.toList ds gs before) (hL:laidMetH Tryz.prog Rows.compileWorldSpoilsRow.laid W):
 Calls Tryz.prog 3 args W λe W'=> ∃v,e= .returned v∧Rows.compileWorldSpoilsSpec.post enc Tryz.prog Tryz.f3 false true false false W args v W':=by
 have hW':=hW;obtain⟨p,q,U7,hV,rfl,hfz,hnd⟩:=hW;have hA:DataW.TrodAll enc Tryz.prog W 0 (λ_=>true) true Tryz.f3.params.toList args.toList ds p:=U7;rw[Tryz.params3]at hA hval;obtain⟨v0,vs0,d0,ds0,p0,q0,hargs,rfl,rfl,h0,r0⟩:=trodAll_cons hA;obtain⟨v1,vs1,d1,ds1,p1,q1,rfl,rfl,rfl,h1,r1⟩:=trodAll_cons r0;obtain⟨v2,vs2,d2,ds2,p2,q2,rfl,rfl,rfl,h2,r2⟩:=trodAll_cons r1;obtain⟨v3,vs3,d3,ds3,p3,q3,rfl,rfl,rfl,h3,r3⟩:=trodAll_cons r2;obtain⟨v4,vs4,d4,ds4,p4,q4,rfl,rfl,rfl,h4,r4⟩:=trodAll_cons r3;obtain⟨rfl,rfl,rfl⟩:=trodAll_nil r4;obtain rfl:args= #[v0,v1,v2,v3,v4]:=by cases args;simp_all
 obtain⟨rfl,rfl⟩:=trodVars_none hV;have hk0:=h0;have dx: ∀x∈p0,x.block<W.heap.size:=λx hx=>by have:=hW'.lt x;simp[hx]at this;exact this
 obtain⟨Gd,by9,cap0,zs0,rfl,aX6,hcap0,hz0⟩:=Xh (hval 0 22 v0 rfl rfl) h0 dx;obtain⟨x1,rfl,rfl,rfl,wx1⟩:=open_int Tryz.underlying5 (hval 1 5 v1 rfl rfl) h1;obtain⟨x2,rfl,rfl,rfl,wx2⟩:=open_int Tryz.underlying5 (hval 2 5 v2 rfl rfl) h2;obtain⟨x3,rfl,rfl,rfl,wx3⟩:=open_int Tryz.underlying23 (hval 3 23 v3 rfl rfl) h3;obtain⟨s4,rfl,rfl,rfl,hs4⟩:=open_string Tryz.underlying9 (hval 4 9 v4 rfl rfl) h4;clear U7;simp only[List.append_nil]at hW';refine(Dk Gd by9 cap0 zs0 aX6 hcap0 x1 wx1 x2 wx2 x3 wx3 s4 hs4 W hz0 (keywords hL)).mono λe W' ⟨he,hg⟩=> ?_;subst he;exact⟨_,rfl,_,_,_,[],_,[],hW',trodAll_cons_mk (shut_bool Tryz.underlying4 _) trodAll_mk0,(trodAll_cons_mk (Below.trod Tryz.laidOut agG (of_decide_eq_true agG) hk0 hg dx) (trodAll_cons_mk (shut_int Tryz.underlying5 wx1) (trodAll_cons_mk (shut_int Tryz.underlying5 wx2) (trodAll_cons_mk (shut_int Tryz.underlying23 wx3) (trodAll_cons_mk (shut_string Tryz.underlying9 hs4) trodAll_mk0))))),rfl,hg.frame _,λh=>ahh⟩
theorem ae0 (os:Os):laidMet Tryz.prog Rows.compileWorldSpoilsRow.laid ((Iy os).forCall (λ_ _=>0) ⟨#[],#[.slice none 0 0,.int .u8 0,.int .u8 0,.int .i8 0,.string ⟨#[]⟩],[]⟩).memory:=
 laidMet_of_run' 8 agG agG
theorem reads (os:Os) {H:Type} (enc:TypeId×Value->H): ∃places,DataW.whole enc Tryz.prog ((Iy os).forCall (λ_ _=>0) ⟨#[],#[.slice none 0 0,.int .u8 0,.int .u8 0,.int .i8 0,.string ⟨#[]⟩],[]⟩).memory Tryz.f3.params.toList Rows.compileWorldSpoilsSpec.vars false (#[.slice none 0 0,.int .u8 0,.int .u8 0,.int .i8 0,.string ⟨#[]⟩]:Array Value).toList 8=some ([.nil,.lit (.int .u8 0),.lit (.int .u8 0),.lit (.int .i8 0),.lit (.string [])],[],places):=
 ⟨[],agG⟩
theorem lifted (os:Os) (started:os.Started) (H:Type) (enc:TypeId×Value->H) (F:Stop.Interp):
 ReturnsInHanded {} Tryz.checked os 3 .any ((OpenSpec.ofChange Rows.compileWorldSpoilsSpec).preRow enc Tryz.prog Tryz.f3 Rows.compileWorldSpoilsRow.domain false Rows.compileWorldSpoilsRow.laid) (((OpenSpec.ofChange Rows.compileWorldSpoilsSpec).at F).post enc Tryz.prog Tryz.f3 false true false false):=by
 obtain⟨places,hx⟩:=reads os enc;refine returnsInHanded_of_row (C:=Tryz.checked) (s:=OpenSpec.ofChange Rows.compileWorldSpoilsSpec) own started agG Tryz.func3
  (witness_row_at (enc:=enc) (C:=Tryz.checked) false (Iy os) #[.slice none 0 0,.int .u8 0,.int .u8 0,.int .i8 0,.string ⟨#[]⟩] rfl agG agG agG
   (OpenSpec.preRow_of_cond 8 hx agG (λk hk=>by cases hk) agG (ae0 os))) ?_
 intro W base args ds gs before hval hW _ _ _ hL _ _;exact contract H enc W base args ds gs before hval hW hL
theorem said:Rows.CompileWorldSpoilsSaid:=
 OpenClaim.holds_of_cond 3 Tryz.f3 rfl rfl rfl rfl rfl rfl rfl ⟨rfl,rfl,rfl,rfl,rfl⟩ rfl rfl rfl rfl rfl agG Tryz.func3 agG
  (of_decide_eq_true agG) (by unfold Func.isWrapper;first|(rw[if_pos agX];kernel_rfl)|(rw[if_neg agX];exact⟨rfl,rfl⟩))
  (λos started H enc _ F=>by rw[OpenClaim.pre_eq_preRow];exact lifted os started H enc F)
theorem plain (f:FuncId) (fn:Func) (hf:Tryz.pinned.checked.prog.funcNamed Rows.compileWorldSpoilsRow.func=some f) (hfn:Tryz.pinned.checked.prog.funcs[f]? =some fn):
 true=Tryz.pinned.checked.prog.looks []∧∀(j:Nat) t,fn.params[j]? =some t->Tryz.pinned.checked.prog.wantsStandIn t=false:=by
 obtain rfl:f=3:=Option.some.inj ((show Tryz.prog.funcNamed Rows.compileWorldSpoilsRow.func=some 3 by kernel_rfl).symm.trans hf) |>.symm;obtain rfl:fn=Tryz.f3:=(Option.some.inj (Tryz.func3.symm.trans hfn)).symm;refine⟨agG,λj t ht=> ?_⟩;rw[Tryz.params3]at ht;have hm:=Array.mem_of_getElem? ht;simp only[List.mem_toArray,List.mem_cons,List.not_mem_nil,or_false]at hm;rcases hm with rfl|rfl|rfl|rfl|rfl
 ·exact(show Tryz.prog.wantsStandIn 22=false by kernel_rfl)
 ·exact(show Tryz.prog.wantsStandIn 5=false by kernel_rfl)
 ·exact(show Tryz.prog.wantsStandIn 5=false by kernel_rfl)
 ·exact(show Tryz.prog.wantsStandIn 23=false by kernel_rfl)
 ·exact(show Tryz.prog.wantsStandIn 9=false by kernel_rfl)
theorem card:Rows.CompileWorldSpoilsCardSaid:=
 Claim7.holds_tied_plain_at .later [] _ _ _ _ said (λ_ h=>ahh) agG (λ_ h=>ahh) compileWorldSpoils_row_tie rfl ⟨rfl,rfl⟩ agG rfl plain agG
end Go.Proofs.YtdoplekppjkkpaaGreatDoor.compileWorldSpoils
end
