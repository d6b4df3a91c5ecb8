/- The law CompileSpoils: it returns true for every input. And what hangs on it. -/
import Derived.Test.YtcjgfgkllmldpaaGreatDoorGVN
import Derived.Test.YtcjgfgkllmldpaaGreatDoorGLW
import Derived.Test.YtcjgfgkllmldpaaGreatDoorGPQ
set_option linter.unusedSimpArgs false
set_option linter.unusedVariables false
set_option maxHeartbeats 40000000
set_option maxRecDepth 1000000
section
namespace Go.Proofs.YtcjgfgkllmldpaaGreatDoor
open Go.RowKit
open Md
theorem au9 (w:World) (zs:List Int) (ao:Option Addr) (cap:Nat) (hz:FW w w.heap.size zs ao) (hl:zs.length<=maxLen):Calls Tryz.prog 4 #[.slice ao zs.length cap] w λe w'=> ∃(W:Wo) (s:jr) (l:List mJ) (v:Value),e= .returned (coV (Jg W s) v)∧QI W∧0<W.cs.length∧0<l.length∧U1 l∧Rows w' w.heap.size (zo (Jg W s) W v l)∧Below w.heap.size w w':=by
 have HZ:=ah hz;clear hz;go_enter Tryz.func4,Tryz.ntmps4;go_upto_region 1 with fail;generalize hW:World.alloc w _=w1;obtain⟨bp,hbp,HB1,-,qE,jX⟩:=oJ hW;rw[hbp];clear hW;go_wp2_with fail;refine(at6 w1 zs ao cap (λk hk=> ?_) (by unfold maxLen at hl;omega)).mono ?_
 ·obtain⟨b,off,h1,h2,h3⟩:=HZ.o.below HB1.o k hk;exact⟨b,off,h1,aV h2 HB1.o.size,h3⟩
 rintro e w2 ⟨gD,gT,aH,eO,he,hO,hb⟩;subst he;obtain⟨p,hpe⟩: ∃p:Pr,p=⟨ow,eO.map (·.t)⟩:=⟨_,rfl⟩;have hfit:Fit p:=by rw[hpe];exact bb7 (by rw[hO.zero]) (λt ht=>by obtain⟨x,hx,rfl⟩:=List.mem_map.1 ht;exact(hO.KF x hx).2.2.2)
 have hok:(jL p).1=0:=by rw[hpe,hO.zero]
 have hwr:tq p=jJ p:=agH
 have hm:QI (jJ p)∧aZ2 (jJ p):=by rw[<- hwr,hpe];exact aN9 hO
 have hat:p.At w2 (some ⟨gD,0,none⟩) (some ⟨gT,0,none⟩):=by rw[hpe];exact hO.at.1
 have hdl:p.ds.length=9:=by rw[hpe];rfl
 have htl:p.ts.length=eO.length:=by rw[hpe];exact fM _
 have hp:=Wy p w2 _ _ 9 aH hat (by rw[hdl];exact aD 9) (by rw[htl];exact hO.at.2) hfit hok;rw[hdl,htl]at hp;have hl0:0<eO.length:=by have:=hO.few;omega
 have HM:=ah hm;have HB2:=ah hb;clear hwr hfit hm hO hb hat hok hpe hdl htl;generalize jJ p=W at *;go_simp;go_wp2_with fail;refine hp.mono ?_;rintro e w3 ⟨s,xs,Me,Mi,rfl,hxl,hts,hrw,hb3⟩;have HT:=ah hts;have HXL:aj (0<xs.length):=ah ahf;have HR:=ah hrw;have HB3:=ah hb3;have uV:=jq hb3 (jq HB2.o qE);clear hp hts hrw hb3 qE hxl;go_upto_region 2 with fail;generalize hW:World.alloc w3 _=w5;obtain⟨bc,hbc,iU,-,tJ,-⟩:=oJ hW;rw[hbc];clear hW;obtain⟨c0,c1,c2,c3,c4,c5,c6⟩:=Mg tJ.o;have JC:=jq iU.o uV;obtain⟨r0,r1,r2,r3,r4,r5,r6⟩:=Mg JC.o;obtain⟨rf0,rf1,rf2,rf3,rf4,rf5,rf6⟩:=fr7 JC.o;go_wp2_with fail;show bodyPost _ _ _ _ _ (World.setCells w5 bp 0 [.slice s.aC W.cs.length s.cC,.slice s.aL W.ls.length s.cL,.slice s.aN W.ns.length s.cN,.slice s.aF W.fs.length s.cF,.slice s.aT W.ts.length s.cT,.slice s.aS W.ss.length s.cS,.slice Me xs.length Mi]);generalize CK:World.setCells w5 _ _ _=wz;obtain⟨Gh,oG,ql⟩:=Qb CK JC.o rfl;clear CK;obtain⟨o0,o1,o2,o3,o4,o5,o6⟩:=Mg Gh.o;have h1:=HB1.o.size;have h2:=HB2.o.size;have h3:=HB3.o.size;have h4:=iU.o.size;have h5:=jX.o;have hrz:=(HR.o.below iU.o).keep oG.o ahf;exact bodyPost_ret (v:= .agg #[.slice s.aC W.cs.length s.cC,.slice s.aL W.ls.length s.cL,.slice s.aN W.ns.length s.cN,.slice s.aF W.fs.length s.cF,.slice s.aT W.ts.length s.cT,.slice s.aS W.ss.length s.cS,.slice Me xs.length Mi]) (by simp[results,Tryz.results4,go_sem,o0,o1,o2,o3,o4,o5,o6]) rfl ⟨W,s,xs,.slice Me xs.length Mi,rfl,HM.o.1,HM.o.2.cs.1,HXL.o,HT.o,⟨λr hr=>Bn (hrz.own r hr) ahf,hrz.ap⟩,(((HB1.o.trans (HB2.o.mono h1)).trans (HB3.o.mono ahf)).trans (iU.o.mono ahf)).trans (cB oG.o ahf ahf)⟩
theorem aL9:CsC where
 made:=au9
 va:=VI Bu
 rv:=ZG
 aw:=ad7
theorem Jj (ao:Option Addr) (len cap:Nat) (zs:List Int) (hlen:zs.length=len) (hcap:len<=maxLen) (th:Int) (wt:(Lit.int .u8 th).wf=true) (a:Int) (wa:(Lit.int .u8 a).wf=true) (f:Int) (wf:(Lit.int .u8 f).wf=true) (n:Int) (wn:(Lit.int .i64 n).wf=true) (w:World) (hz:FW w w.heap.size zs ao) (fG:eD w):
 Calls Tryz.prog 3 #[.slice ao len cap,.int .u8 th,.int .u8 a,.int .u8 f,.int .i64 n] w λe w'=>e= .returned (.bool true)∧Below w.heap.size w w':=by
 subst hlen;have e1:IntKind.u8.min=0:=ahg
 have e2:IntKind.u8.max=255:=ahg
 simp[Lit.wf]at wt wa wf;obtain⟨th,rfl⟩:=Int.eq_ofNat_of_zero_le (show 0<=th by omega);obtain⟨a,rfl⟩:=Int.eq_ofNat_of_zero_le (show 0<=a by omega);obtain⟨f,rfl⟩:=Int.eq_ofNat_of_zero_le (show 0<=f by omega);exact VY (ah aL9) ao cap zs hcap th a f ahf ahf ahf n w hz fG
end Go.Proofs.YtcjgfgkllmldpaaGreatDoor
end
section
namespace Go.Proofs.YtcjgfgkllmldpaaGreatDoor.compileSpoils
open Go.ChangeShapes Go.WideShapes Go.ChangeAt Go.RowKit
open Go.WideMaps Go.WideElems
open Go.ChangeMaps (open_string shut_string)
theorem keywords {W:World} (h:laidMetH Tryz.prog Rows.compileSpoilsRow.laid W):eD W:=
 Zm ahe (laidMet.tail (laidMet.tail (laidMet.tail (laidMet.tail (laidMet.tail (laidMet.tail (show laidMet Tryz.prog Rows.compileSpoilsRow.laid W from h)))))))
theorem contract (H:Type) (enc:TypeId×Value->H) (W:World) (base:Nat) (args:Array Value) (ds gs:List (DataW H)) (before:List MemPlace)
 (hval: ∀(j:Nat) t v,Tryz.f3.params[j]? =some t->args[j]? =some v->Value.okWide Tryz.prog W .any base t v)
 (hW:DataW.Whole enc Tryz.prog Tryz.f3.params.toList Rows.compileSpoilsSpec.vars false W args.toList ds gs before) (hL:laidMetH Tryz.prog Rows.compileSpoilsRow.laid W):
 Calls Tryz.prog 3 args W λe W'=> ∃v,e= .returned v∧Rows.compileSpoilsSpec.post enc Tryz.prog Tryz.f3 false true false false W args v W':=by
 have hW':=hW;obtain⟨p,q,Xw,hV,rfl,hfz,hnd⟩:=hW;have hA:DataW.TrodAll enc Tryz.prog W 0 (λ_=>true) true Tryz.f3.params.toList args.toList ds p:=Xw;rw[Tryz.params3]at hA hval;obtain⟨v0,vs0,d0,ds0,p0,q0,hargs,rfl,rfl,h0,r0⟩:=trodAll_cons hA;obtain⟨v1,vs1,d1,ds1,p1,q1,rfl,rfl,rfl,h1,r1⟩:=trodAll_cons r0;obtain⟨v2,vs2,d2,ds2,p2,q2,rfl,rfl,rfl,h2,r2⟩:=trodAll_cons r1;obtain⟨v3,vs3,d3,ds3,p3,q3,rfl,rfl,rfl,h3,r3⟩:=trodAll_cons r2;obtain⟨v4,vs4,d4,ds4,p4,q4,rfl,rfl,rfl,h4,r4⟩:=trodAll_cons r3;obtain⟨rfl,rfl,rfl⟩:=trodAll_nil r4;obtain rfl:args= #[v0,v1,v2,v3,v4]:=by cases args;simp_all
 obtain⟨rfl,rfl⟩:=trodVars_none hV;have hk0:=h0;have bP: ∀x∈p0,x.block<W.heap.size:=λx hx=>by have:=hW'.lt x;simp[hx]at this;exact this
 obtain⟨J5,bK2,cap0,zs0,rfl,bo0,hcap0,hz0⟩:=ad9 (hval 0 22 v0 rfl rfl) h0 bP;obtain⟨x1,rfl,rfl,rfl,wx1⟩:=open_int Tryz.underlying5 (hval 1 5 v1 rfl rfl) h1;obtain⟨x2,rfl,rfl,rfl,wx2⟩:=open_int Tryz.underlying5 (hval 2 5 v2 rfl rfl) h2;obtain⟨x3,rfl,rfl,rfl,wx3⟩:=open_int Tryz.underlying5 (hval 3 5 v3 rfl rfl) h3;obtain⟨x4,rfl,rfl,rfl,wx4⟩:=open_int Tryz.underlying2 (hval 4 2 v4 rfl rfl) h4;clear Xw;simp only[List.append_nil]at hW';refine(Jj J5 bK2 cap0 zs0 bo0 hcap0 x1 wx1 x2 wx2 x3 wx3 x4 wx4 W hz0 (keywords hL)).mono λe W' ⟨he,hg⟩=> ?_;subst he;exact⟨_,rfl,_,_,_,[],_,[],hW',trodAll_cons_mk (shut_bool Tryz.underlying4 _) trodAll_mk0,(trodAll_cons_mk (Below.trod Tryz.laidOut ahe (of_decide_eq_true ahe) hk0 hg bP) (trodAll_cons_mk (shut_int Tryz.underlying5 wx1) (trodAll_cons_mk (shut_int Tryz.underlying5 wx2) (trodAll_cons_mk (shut_int Tryz.underlying5 wx3) (trodAll_cons_mk (shut_int Tryz.underlying2 wx4) trodAll_mk0))))),rfl,hg.frame _,λh=>ahG⟩
theorem ay3 (os:Os):laidMet Tryz.prog Rows.compileSpoilsRow.laid ((Kz os).forCall (λ_ _=>0) ⟨#[],#[.slice none 0 0,.int .u8 0,.int .u8 0,.int .u8 0,.int .i64 0],[]⟩).memory:=
 laidMet_of_run' 8 ahe ahe
theorem reads (os:Os) {H:Type} (enc:TypeId×Value->H): ∃places,DataW.whole enc Tryz.prog ((Kz os).forCall (λ_ _=>0) ⟨#[],#[.slice none 0 0,.int .u8 0,.int .u8 0,.int .u8 0,.int .i64 0],[]⟩).memory Tryz.f3.params.toList Rows.compileSpoilsSpec.vars false (#[.slice none 0 0,.int .u8 0,.int .u8 0,.int .u8 0,.int .i64 0]:Array Value).toList 8=some ([.nil,.lit (.int .u8 0),.lit (.int .u8 0),.lit (.int .u8 0),.lit (.int .i64 0)],[],places):=
 ⟨[],ahe⟩
theorem lifted (os:Os) (started:os.Started) (H:Type) (enc:TypeId×Value->H) (F:Stop.Interp):
 ReturnsInHanded {} Tryz.checked os 3 .any ((OpenSpec.ofChange Rows.compileSpoilsSpec).preRow enc Tryz.prog Tryz.f3 Rows.compileSpoilsRow.domain false Rows.compileSpoilsRow.laid) (((OpenSpec.ofChange Rows.compileSpoilsSpec).at F).post enc Tryz.prog Tryz.f3 false true false false):=by
 obtain⟨places,hx⟩:=reads os enc;refine returnsInHanded_of_row (C:=Tryz.checked) (s:=OpenSpec.ofChange Rows.compileSpoilsSpec) own started ahe Tryz.func3
  (witness_row_at (enc:=enc) (C:=Tryz.checked) false (Kz os) #[.slice none 0 0,.int .u8 0,.int .u8 0,.int .u8 0,.int .i64 0] rfl ahe ahe ahe
   (OpenSpec.preRow_of_cond 8 hx ahe (λk hk=>by cases hk) ahe (ay3 os))) ?_
 intro W base args ds gs before hval hW _ _ _ hL _ _;exact contract H enc W base args ds gs before hval hW hL
theorem said:Rows.CompileSpoilsSaid:=
 OpenClaim.holds_of_cond 3 Tryz.f3 rfl rfl rfl rfl rfl rfl rfl ⟨rfl,rfl,rfl,rfl,rfl⟩ rfl rfl rfl rfl rfl ahe Tryz.func3 ahe
  (of_decide_eq_true ahe) (by unfold Func.isWrapper;first|(rw[if_pos ahs];kernel_rfl)|(rw[if_neg ahs];exact⟨rfl,rfl⟩))
  (λos started H enc _ F=>by rw[OpenClaim.pre_eq_preRow];exact lifted os started H enc F)
theorem plain (f:FuncId) (fn:Func) (hf:Tryz.pinned.checked.prog.funcNamed Rows.compileSpoilsRow.func=some f) (hfn:Tryz.pinned.checked.prog.funcs[f]? =some fn):
 true=Tryz.pinned.checked.prog.looks []∧∀(j:Nat) t,fn.params[j]? =some t->Tryz.pinned.checked.prog.wantsStandIn t=false:=by
 obtain rfl:f=3:=Option.some.inj ((show Tryz.prog.funcNamed Rows.compileSpoilsRow.func=some 3 by kernel_rfl).symm.trans hf) |>.symm;obtain rfl:fn=Tryz.f3:=(Option.some.inj (Tryz.func3.symm.trans hfn)).symm;refine⟨ahe,λj t ht=> ?_⟩;rw[Tryz.params3]at ht;have hm:=Array.mem_of_getElem? ht;simp only[List.mem_toArray,List.mem_cons,List.not_mem_nil,or_false]at hm;rcases hm with rfl|rfl|rfl|rfl|rfl
 ·exact(show Tryz.prog.wantsStandIn 22=false by kernel_rfl)
 ·exact(show Tryz.prog.wantsStandIn 5=false by kernel_rfl)
 ·exact(show Tryz.prog.wantsStandIn 5=false by kernel_rfl)
 ·exact(show Tryz.prog.wantsStandIn 5=false by kernel_rfl)
 ·exact(show Tryz.prog.wantsStandIn 2=false by kernel_rfl)
theorem card:Rows.CompileSpoilsCardSaid:=
 Claim7.holds_tied_plain_at .later [] _ _ _ _ said (λ_ h=>ahG) ahe (λ_ h=>ahG) compileSpoils_row_tie rfl ⟨rfl,rfl⟩ ahe rfl plain ahe
end Go.Proofs.YtcjgfgkllmldpaaGreatDoor.compileSpoils
end
