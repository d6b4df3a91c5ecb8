/- The law CompileLoose, walked: it returns true for every input. And what hangs on it. -/
import Derived.Test.YtldapdcphphodaaGreatDoorGVA
import Derived.Test.YtldapdcphphodaaGreatDoorGCI
import Derived.Test.YtldapdcphphodaaGreatDoorGLM
import Derived.Test.YtldapdcphphodaaGreatDoorGPQ
import Derived.SizedLaws
set_option linter.unusedSimpArgs false
set_option linter.unusedVariables false
set_option maxHeartbeats 40000000
set_option maxRecDepth 1000000
section
namespace Go.Proofs.YtldapdcphphodaaGreatDoor
open Go.RowKit
open Md
theorem YX: ∀l:List Th,(∀t∈l,vM WB t.body)->yL l<=l.length*WB
 | [],_=>bF _
 |t::r,h=>by have h1:=(h t aW).1;have h2:=YX r (λx hx=>h x (aX _ hx));rw[yL,ay,Nat.add_mul,Nat.one_mul];omega
theorem IK (ao:Option Addr) (len cap:Nat) (zs:List Int) (hlen:zs.length=len) (hcap:len<=maxLen) (w:World) (hz:MP w w.heap.size zs ao) (eD:dZ w):
 Calls Tryz.prog 3 #[.slice ao len cap] w λe w'=>e= .returned (.bool true)∧Below w.heap.size w w':=by
 subst hlen;have HZ:=ah hz;have uy:=ah eD;unfold maxLen at hcap;clear hz eD;go_enter Tryz.func3,Tryz.ntmps3;by_cases bD4:300<zs.length
 ·go_wp2_with fail;go_ret;exact⟨rfl,ak _ _⟩
 go_wp2_with fail;refine(Wz w zs ao cap HZ.o ahe).mono ?_;rintro e w1 ⟨p,aK,aM,aG,aD,rfl,hp,yZ,xu,hw,hb⟩;have HB0:=ah hb;have HP:=ah hp;have jc:=ah (uy.o.same hb);have hfit:Fit p:=⟨by have h1:=YX p.ts hw.2;have h2:=Nat.mul_le_mul_right WB hw.1;unfold WB at *;omega,λt ht=>(hw.2 t ht).2⟩;have Dy:aj (xZ p.ts<=1000000000000):=ah (by have h1:=hfit.1;have h2:=Ik p.ts;omega);have MU:aj ((KM p).length<=1000):=ah (by
  unfold KM;split
  ·rename_i h;have:=(uS (p:=p) aiq).2.2.1;rw[Im];omega
  ·exact bF _)
 have Cu:aj (∀w2:World,p.At w2 aK aM->dZ w2->_):=ah (λw2 h k=>PY p w2 aK aM aG aD h k hfit);have OD:aj (∀w2:World,p.At w2 aK aM->_):=ah (λw2 h=>QZ p w2 aK aM aG aD h yZ xu hfit);have HC3:aj (∀w2:World,p.At w2 aK aM->dZ w2->_):=ah (λw2 h k=>KQ p w2 aK aM aG aD h k Dy.o);have Sq:aj (∀w2:World,p.At w2 aK aM->_):=ah (λw2 h=>LP p w2 aK aM aG aD h yZ xu Dy.o);clear hp hb hw yZ xu hfit Dy uy HZ;go_upto_region 4 with fail;generalize hW:World.alloc w1 _=w2;obtain⟨pb,hpb,HPB,HB2,HX,-⟩:=Ea hW;rw[<- HPB.o]at HB2;rw[hpb];clear hW hpb;obtain⟨y0,y1⟩:=nT HX.o;go_wp2_with fail;refine(Cu.o w2 (HP.o.same HB2.o) (jc.o.same HB2.o)).mono ?_;rintro e w3 ⟨s,aoc,ZT,rfl,hwo,htc,hb3⟩;have HB3:=ah (HB2.o.trans (hb3.mono HB2.o.size));have BK:=gV hb3 HX;have Ap:=ah hwo;have HTC:=ah htc;clear hwo htc hb3 Cu y0 y1;unfold Un;go_upto_region 5 with fail;generalize hW:World.alloc w3 _=w4;obtain⟨cb,hcb,OE,eF,xV,-⟩:=Ea hW;rw[<- OE.o]at eF;rw[hcb];clear hW hcb;have Br:=ah (HB3.o.trans (eF.o.mono HB3.o.size));have qX:=gV eF.o BK;obtain⟨y0,y1⟩:=nT qX.o;go_wp2_with fail;refine(OD.o w4 (HP.o.same Br.o)).mono ?_;rintro e w5 ⟨s2,aod,bm0,rfl,hwd,htd,hb5⟩;have jF:=ah (Br.o.trans (hb5.mono Br.o.size));have DU:=gV hb5 qX;have aD6:=gV hb5 xV;have Zd:=ah (eF.o.trans (hb5.mono eF.o.size));have Wt:=ah hwd;have HTD:=ah htd;clear hwd htd hb5 OD y0 y1;unfold Un;go_upto_region 6 with fail;generalize hW:World.alloc w5 _=w6;obtain⟨db,hdb,VN,oV,DW,-⟩:=Ea hW;rw[<- VN.o]at oV;rw[hdb];clear hW hdb;have xK:=ah (jF.o.trans (oV.o.mono jF.o.size));have G7:=gV oV.o DU;have ZC:=gV oV.o aD6;have bj3:=ah (Wt.o.same oV.o);have Zc:=ah (Zd.o.trans (oV.o.mono Zd.o.size));have Wd:aj (∀w1':World,Below w6.heap.size w6 w1'->_):=ah (λw1' hb=>R4 (rW p) s s2 (KM p) aoc aod ZT bm0 w1' ((Ap.o.same Zc.o).same hb) (bj3.o.same hb) ((HTC.o.same Zc.o).same hb) ((HTD.o.same oV.o).same hb) MU.o);have FL:aj (∀w1':World,Below w6.heap.size w6 w1'->_):=ah (λw1' hb=>HC3.o w1' ((HP.o.same xK.o).same hb) ((jc.o.same xK.o).same hb));have vC:aj (∀w1':World,Below w6.heap.size w6 w1'->_):=ah (λw1' hb=>Sq.o w1' ((HP.o.same xK.o).same hb));have HAW:aj (∀w1':World,Below w6.heap.size w6 w1'->_):=ah (λw1' hb=>WO w1' ((jc.o.same xK.o).same hb));generalize rW p=W at *;generalize KM p=l at *;generalize Tj p=er at *;clear HB2 HX HB3 BK Ap HTC eF xV Br qX jF DU aD6 Zd Wt HTD oV Zc HC3 Sq;have C: ∀(j:Nat) (u:Value),_->∀w1',Below w6.heap.size w6 w1'->w1'.cell? ⟨cb,j,none⟩=some u:=λj u hu w1' hb=>aQ ((hb.block _ (aU ZC.o)).trans ZC.o) hu;have D: ∀(j:Nat) (u:Value),_->∀w1',Below w6.heap.size w6 w1'->w1'.cell? ⟨db,j,none⟩=some u:=λj u hu w1' hb=>aQ ((hb.block _ (aU DW.o)).trans DW.o) hu;have C0:=C 0 _ rfl;have C1:=C 1 _ rfl;have C2:=C 2 _ rfl;have C3:=C 3 _ rfl;have C4:=C 4 _ rfl;have C5:=C 5 _ rfl;have C6:=C 6 _ rfl;have D0:=D 0 _ rfl;have D1:=D 1 _ rfl;have D2:=D 2 _ rfl;have D3:=D 3 _ rfl;have D4:=D 4 _ rfl;have D5:=D 5 _ rfl;have D6:=D 6 _ rfl;obtain⟨e0,e1⟩:=nT G7.o;have hpl:=(aU G7.o);have E0:=gQ hpl e0;have E1:=gQ hpl e1;have aB7:=Wd.o;have ax8:=FL.o;have ax9:=vC.o;have ax0:=HAW.o;clear C D e0 e1 hpl ZC DW G7 Wd FL vC HAW;refine bS ahd rfl ?_;refine bK 0 24 [] [[],[],[0,1],[0,1,2],[0,1,2,3],[0,1,2,3],[0,1,2,3,4,5],[0,1,2,3,4,5,6],[0,1,2,3,4,5,6,7],[0,1,2,3,4,5,6,7,8],[0,1,2,3,4,5,6,7,8],[0,1,2,3,4,5,6,7,8,9,10],[0,1,2,3,4,5,6,7,8,9,10,11],[0,1,2,3,4,5,6,7,8,9,10,11,12],[0,1,2,3,4,5,6,7,8,9,10,11,12,13],[0,1,2,3,4,5,6,7,8,9,10,11,12,13,14],[0,1,2,3,4,5,6,7,8,9,10,11,12,13],[0,1,2,3,4,5,6,7,8,9,10,11,12,13,14,15,16],[0,1,2,3,4,5,6,7,8,9,10,11,12,13,14,15,16,17],[0,1,2,3,4,5,6,7,8,9,10,11,12,13,14,15,16,17,18],[0,1,2,3,4,5,6,7,8,9,10,11,12,13,14,15,16,17,18,19],[0,1,2,3,4,5,6,7,8,9,10,11,12,13,14,15,16,17,18,19,20],[0,1,2,3,4,5,6,7,8,9,10,11,12,13,14,15,16,17,18,19,20,21],[0,1,2,3,4,5,6,7,8,9,10,11,12,13,14,15,16,17,18,19,20,21,22]] [[],[],[],[],[],[],[],[],[],[],[],[],[],[],[],[],[],[],[],[],[],[],[],[]] (λ_ w1'=>Below w6.heap.size w6 w1') (λw1 w1'=>Below w1.heap.size w1 w1') [27,28,29,30,31,32,33,34,35,36,37,38,39,40,41,42,43,44,45,46,47,48,49,2] rfl rfl aip ahd ahd ahd ahd ahd aip (λ_=>ak _ _) aip (below_drewN (ak _ _) 1) ?_;simp only[eB,iP]
 iterate 2
  apply bf.step
  case aZ=>intro c A w' hok hC hO hD;have e4:=hO 4 aip;have e7:=hO 7 aip;simp[Act.eval]at e4 e7;simp[Act.eval]at hD;simp[go_sem,gd,Oper.wp,hD,e4,e7,C0,C1,C2,C3,C4,C5,C6,hC,D0,D1,D2,D3,D4,D5,D6];exact aO.mk (ak _ _) hC (bT.mk _ _)
 refine bf.some (λv _=>v= .bool true) (λ_ _ _ _ h=>h) ?_ ?_
 ·intro c A w1' hok hC hO hD;simp[Act.eval]at hD;simp[go_sem,gd,Oper.wp,hD];refine(aB7 w1' hC).mono ?_;rintro e w5 ⟨rfl,hb⟩;exact aO.mk hb (hC.trans (hb.mono hC.size)) rfl
 try simp only[bP]
 iterate 12
  apply bf.step
  case aZ=>intro c A w' hok hC hO hD;have e5:=hO 5 aip;have e8:=hO 8 aip;have e6:=hO 6 aip;have e9:=hO 9 aip;have e3:=hO 3 aip;simp[Act.eval]at e5 e8 e6 e9 e3;simp[Act.eval]at hD;simp[go_sem,gd,Oper.wp,hD,e5,e8,e6,e9,e3,E0,E1,hC];exact aO.mk (ak _ _) hC (bT.mk _ _)
  try simp only[bP]
 refine bf.some (λv w1'=> ∃t,v=oK W t∧gL w1' w1'.heap.size W t) (λv w1 w1' hle ⟨t,h1,h2⟩=>⟨t,h1,h2.same hle⟩) ?_ ?_
 ·intro c A w1' hok hC hO hD;simp[Act.eval]at hD;simp[go_sem,gd,Oper.wp,hD];refine(ax8 w1' hC).mono ?_;rintro e w5 ⟨t,rfl,ht,hb,-⟩;exact aO.mk hb (hC.trans (hb.mono hC.size)) ⟨t,rfl,ht⟩
 apply bf.step
 case aZ=>intro c A w' hok hC hO hD;have e3:=hO 3 aip;simp[Act.eval]at e3;simp[Act.eval]at hD;simp[go_sem,gd,Oper.wp,hD,e3,E0,E1,hC];exact aO.mk (ak _ _) hC (bT.mk _ _)
 try simp only[bP]
 refine bf.some (λv w1'=> ∃t,v=oK W t∧gL w1' w1'.heap.size W t) (λv w1 w1' hle ⟨t,h1,h2⟩=>⟨t,h1,h2.same hle⟩) ?_ ?_
 ·intro c A w1' hok hC hO hD;simp[Act.eval]at hD;simp[go_sem,gd,Oper.wp,hD];refine(ax9 w1' hC).mono ?_;rintro e w5 ⟨t,rfl,ht,hb,-⟩;exact aO.mk hb (hC.trans (hb.mono hC.size)) ⟨t,rfl,ht⟩
 refine bf.some (λv _=>v= .bool true) (λ_ _ _ _ h=>h) ?_ ?_
 ·intro c A w1' hok hC hO hD;simp[Act.eval]at hD;obtain⟨⟨t,ht1,ht2⟩,⟨t2,hu1,hu2⟩,h34⟩:=hD;simp[go_sem,gd,Oper.wp,ht1,hu1,h34];refine(FC W t t2 w1' ht2 hu2).mono ?_;rintro e w5 ⟨rfl,hb⟩;exact aO.mk hb (hC.trans (hb.mono hC.size)) rfl
 try simp only[bP]
 iterate 2
  apply bf.step
  case aZ=>intro c A w' hok hC hO hD;simp[Act.eval]at hD;simp[go_sem,gd,Oper.wp,hD];exact aO.mk (ak _ _) hC (bT.mk _ _)
 refine bf.some (λv _=>v= .bool true) (λ_ _ _ _ h=>h) ?_ ?_
 ·intro c A w1' hok hC hO hD;simp[Act.eval]at hD;simp[go_sem,gd,Oper.wp,hD];refine(ax0 w1' hC).mono ?_;rintro e w5 ⟨rfl,hb⟩;exact aO.mk hb (hC.trans (hb.mono hC.size)) rfl
 try simp only[bP]
 iterate 2
  apply bf.step
  case aZ=>intro c A w' hok hC hO hD;simp[Act.eval]at hD;simp[go_sem,gd,Oper.wp,hD];exact aO.mk (ak _ _) hC (bT.mk _ _)
  try simp only[bP]
 try simp only[bP]
 refine bf.done ?_;intro wz bR
 try simp only[eB]
 iterate 15 refine jk ?_
 intro v15 uL;refine jk ?_;intro v17 AA
 iterate 6 refine jk ?_
 clear uL AA;refine dH.nil ?_;go_simp;have HBz:=ah (xK.o.trans (bR.mono xK.o.size));clear C0 C1 C2 C3 C4 C5 C6 D0 D1 D2 D3 D4 D5 D6 E0 E1 aB7 ax8 ax9 ax0 bR;refine cO rfl ?_;go_simp;go_wp2_with fail;go_ret;exact⟨rfl,HB0.o.trans (HBz.o.mono HB0.o.size)⟩
end Go.Proofs.YtldapdcphphodaaGreatDoor
end
section
namespace Go.Proofs.YtldapdcphphodaaGreatDoor.compileLoose
open Go.ChangeShapes Go.WideShapes Go.ChangeAt Go.RowKit
open Go.WideMaps Go.WideElems
open Go.ChangeMaps (open_string shut_string)
theorem keywords {W:World} (h:laidMetH Tryz.prog Rows.compileLooseRow.laid W):dZ W:=
 Vf ahd (laidMet.tail (laidMet.tail (laidMet.tail (laidMet.tail (laidMet.tail (laidMet.tail (show laidMet Tryz.prog Rows.compileLooseRow.laid W from h)))))))
theorem contract (H:Type) (enc:TypeId×Value->H) (W:World) (base:Nat) (args:Array Value) (ds gs:List (DataW H)) (before:List MemPlace)
 (hval: ∀(j:Nat) t v,Tryz.f3.params[j]? =some t->args[j]? =some v->Value.okWide Tryz.prog W .any base t v)
 (hW:DataW.Whole enc Tryz.prog Tryz.f3.params.toList Rows.compileLooseSpec.vars false W args.toList ds gs before) (hL:laidMetH Tryz.prog Rows.compileLooseRow.laid W):
 Calls Tryz.prog 3 args W λe W'=> ∃v,e= .returned v∧Rows.compileLooseSpec.post enc Tryz.prog Tryz.f3 false true false false W args v W':=by
 have hW':=hW;obtain⟨p,q,Tx,hV,rfl,hfz,hnd⟩:=hW;have hA:DataW.TrodAll enc Tryz.prog W 0 (λ_=>true) true Tryz.f3.params.toList args.toList ds p:=Tx;rw[Tryz.params3]at hA hval;obtain⟨v0,vs0,d0,ds0,p0,q0,hargs,rfl,rfl,h0,r0⟩:=trodAll_cons hA;obtain⟨rfl,rfl,rfl⟩:=trodAll_nil r0;obtain rfl:args= #[v0]:=by cases args;simp_all
 obtain⟨rfl,rfl⟩:=trodVars_none hV;have hk0:=h0;have bg: ∀x∈p0,x.block<W.heap.size:=λx hx=>by have:=hW'.lt x;simp[hx]at this;exact this
 obtain⟨Fv,bq4,cap0,zs0,rfl,aS3,hcap0,hz0⟩:=WS (hval 0 22 v0 rfl rfl) h0 bg;clear Tx;simp only[List.append_nil]at hW';refine(IK Fv bq4 cap0 zs0 aS3 hcap0 W hz0 (keywords hL)).mono λe W' ⟨he,hg⟩=> ?_;subst he;exact⟨_,rfl,_,_,_,[],_,[],hW',trodAll_cons_mk (shut_bool Tryz.underlying4 _) trodAll_mk0,(trodAll_cons_mk (Below.trod Tryz.laidOut ahd (of_decide_eq_true ahd) hk0 hg bg) trodAll_mk0),rfl,hg.frame _,λh=>ahC⟩
theorem ad5 (os:Os):laidMet Tryz.prog Rows.compileLooseRow.laid ((Hg os).forCall (λ_ _=>0) ⟨#[],#[.slice none 0 0],[]⟩).memory:=
 laidMet_of_run' 8 ahd ahd
theorem reads (os:Os) {H:Type} (enc:TypeId×Value->H): ∃places,DataW.whole enc Tryz.prog ((Hg os).forCall (λ_ _=>0) ⟨#[],#[.slice none 0 0],[]⟩).memory Tryz.f3.params.toList Rows.compileLooseSpec.vars false (#[.slice none 0 0]:Array Value).toList 8=some ([.nil],[],places):=
 ⟨[],ahd⟩
theorem lifted (os:Os) (started:os.Started) (H:Type) (enc:TypeId×Value->H) (F:Stop.Interp):
 ReturnsInHanded {} Tryz.checked os 3 .any ((OpenSpec.ofChange Rows.compileLooseSpec).preRow enc Tryz.prog Tryz.f3 Rows.compileLooseRow.domain false Rows.compileLooseRow.laid) (((OpenSpec.ofChange Rows.compileLooseSpec).at F).post enc Tryz.prog Tryz.f3 false true false false):=by
 obtain⟨places,hx⟩:=reads os enc;refine returnsInHanded_of_row (C:=Tryz.checked) (s:=OpenSpec.ofChange Rows.compileLooseSpec) own started ahd Tryz.func3
  (witness_row_at (enc:=enc) (C:=Tryz.checked) false (Hg os) #[.slice none 0 0] rfl ahd ahd ahd
   (OpenSpec.preRow_of_cond 8 hx ahd (λk hk=>by cases hk) ahd (ad5 os))) ?_
 intro W base args ds gs before hval hW _ _ _ hL _ _;exact contract H enc W base args ds gs before hval hW hL
theorem said:Rows.CompileLooseSaid:=
 OpenClaim.holds_of_cond 3 Tryz.f3 rfl rfl rfl rfl rfl rfl rfl ⟨rfl,rfl,rfl,rfl,rfl⟩ rfl rfl rfl rfl rfl ahd Tryz.func3 ahd
  (of_decide_eq_true ahd) (by unfold Func.isWrapper;first|(rw[if_pos ahF];kernel_rfl)|(rw[if_neg ahF];exact⟨rfl,rfl⟩))
  (λos started H enc _ F=>by rw[OpenClaim.pre_eq_preRow];exact lifted os started H enc F)
theorem plain (f:FuncId) (fn:Func) (hf:Tryz.pinned.checked.prog.funcNamed Rows.compileLooseRow.func=some f) (hfn:Tryz.pinned.checked.prog.funcs[f]? =some fn):
 true=Tryz.pinned.checked.prog.looks []∧∀(j:Nat) t,fn.params[j]? =some t->Tryz.pinned.checked.prog.wantsStandIn t=false:=by
 obtain rfl:f=3:=Option.some.inj ((show Tryz.prog.funcNamed Rows.compileLooseRow.func=some 3 by kernel_rfl).symm.trans hf) |>.symm;obtain rfl:fn=Tryz.f3:=(Option.some.inj (Tryz.func3.symm.trans hfn)).symm;refine⟨ahd,λj t ht=> ?_⟩;rw[Tryz.params3]at ht;have hm:=Array.mem_of_getElem? ht;simp only[List.mem_toArray,List.mem_cons,List.not_mem_nil,or_false]at hm;rcases hm with rfl
 ·exact(show Tryz.prog.wantsStandIn 22=false by kernel_rfl)
theorem card:Rows.CompileLooseCardSaid:=
 Claim7.holds_tied_plain_at .later [] _ _ _ _ said (λ_ h=>ahC) ahd (λ_ h=>ahC) compileLoose_row_tie rfl ⟨rfl,rfl⟩ ahd rfl plain ahd
end Go.Proofs.YtldapdcphphodaaGreatDoor.compileLoose
end
