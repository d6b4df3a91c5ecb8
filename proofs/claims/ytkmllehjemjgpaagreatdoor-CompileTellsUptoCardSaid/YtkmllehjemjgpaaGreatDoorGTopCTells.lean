/- The law CompileTells, walked: it returns true for every program that fits. And what hangs on it. -/
import Derived.Test.YtkmllehjemjgpaaGreatDoorGVE
import Derived.Test.YtkmllehjemjgpaaGreatDoorGCG
import Derived.Test.YtkmllehjemjgpaaGreatDoorGCI
import Derived.Test.YtkmllehjemjgpaaGreatDoorGPQ
import Derived.SizedLaws
import Derived.Lib.Hide
import Derived.Test.YtkmllehjemjgpaaGreatDoorGVO
set_option linter.unusedSimpArgs false
set_option linter.unusedVariables false
set_option maxHeartbeats 40000000
set_option maxRecDepth 1000000
section
namespace Go.Proofs.YtkmllehjemjgpaaGreatDoor
open Go.RowKit
open Md
theorem Gl (p:Pr) (aB aD:Option Addr) (aA ay:Nat) {w:World} (hp:p.At w aB aD) (xP:p.ds.length<=aA) (vV:p.ts.length<=ay) (hfit:Fit p) (dG:dD w):
 Calls Tryz.prog 3 #[.agg #[.slice aB p.ds.length aA,.slice aD p.ts.length ay]] w λe w'=>e= .returned (.bool true)∧Below w.heap.size w w':=by
 have HP:=ah hp;have iF:=ah dG;have Ca:aj (wR p.ts<=1000000000000):=ah (by have h1:=hfit.1;have h2:=FX p.ts;omega);have KF:aj ((Jc p).length<=1000):=ah (by
  unfold Jc;split
  ·rename_i h;have:=(tq (p:=p) (by simpa using h)).2.2.1;rw[FZ];omega
  ·exact Nat.zero_le _)
 have xH:aj (∀w2:World,p.At w2 aB aD->dD w2->_):=ah (λw2 h k=>NM p w2 aB aD aA ay h k hfit);have Mt:aj (∀w2:World,p.At w2 aB aD->_):=ah (λw2 h=>OL p w2 aB aD aA ay h xP vV hfit);have HC3:aj (∀w2:World,p.At w2 aB aD->dD w2->_):=ah (λw2 h k=>Je p w2 aB aD aA ay h k Ca.o);have Q8:aj (∀w2:World,p.At w2 aB aD->_):=ah (λw2 h=>JM p w2 aB aD aA ay h xP vV Ca.o);clear hp dG xP vV hfit Ca;go_enter Tryz.func3,Tryz.ntmps3;go_upto_region 1 with fail;generalize hW:World.alloc w _=w2;obtain⟨pb,hpb,HPB,HB2,HX,-⟩:=Ct hW;rw[<- HPB.o]at HB2;rw[hpb];clear hW hpb;obtain⟨y0,y1⟩:=Cx HX.o;go_wp2_with fail;refine(xH.o w2 (HP.o.same HB2.o) (iF.o.same HB2.o)).mono ?_;rintro e w3 ⟨s,aoc,RS,rfl,hwo,htc,hb3⟩;have HB3:=ah (HB2.o.trans (hb3.mono HB2.o.size));have zl:=ah ((hb3.block _ (Array.getElem?_eq_some_iff.1 HX.o).1).trans HX.o);have zk:=ah hwo;have Zk:=ah htc;clear hwo htc hb3 xH y0 y1;unfold Ru;go_upto_region 2 with fail;generalize hW:World.alloc w3 _=w4;obtain⟨cb,hcb,Mv,dH,vN,-⟩:=Ct hW;rw[<- Mv.o]at dH;rw[hcb];clear hW hcb;have A8:=ah (HB3.o.trans (dH.o.mono HB3.o.size));have lJ:=ah ((dH.o.block _ (Array.getElem?_eq_some_iff.1 zl.o).1).trans zl.o);obtain⟨y0,y1⟩:=Cx lJ.o;go_wp2_with fail;refine(Mt.o w4 (HP.o.same A8.o)).mono ?_;rintro e w5 ⟨s2,aod,aS4,rfl,hwd,htd,hb5⟩;have jS:=ah (A8.o.trans (hb5.mono A8.o.size));have wM:=ah ((hb5.block _ (Array.getElem?_eq_some_iff.1 lJ.o).1).trans lJ.o);have Xf:=ah ((hb5.block _ (Array.getElem?_eq_some_iff.1 vN.o).1).trans vN.o);have WK:=ah (dH.o.trans (hb5.mono dH.o.size));have TU:=ah hwd;have HTD:=ah htd;clear hwd htd hb5 Mt y0 y1;unfold Ru;go_upto_region 3 with fail;generalize hW:World.alloc w5 _=w6;obtain⟨db,hdb,Tx,nM,Ck,-⟩:=Ct hW;rw[<- Tx.o]at nM;rw[hdb];clear hW hdb;have wF:=ah (jS.o.trans (nM.o.mono jS.o.size));have Eu:=ah ((nM.o.block _ (Array.getElem?_eq_some_iff.1 wM.o).1).trans wM.o);have Xg:=ah ((nM.o.block _ (Array.getElem?_eq_some_iff.1 Xf.o).1).trans Xf.o);have aP9:=ah (TU.o.same nM.o);have WJ:=ah (WK.o.trans (nM.o.mono WK.o.size));have TK:aj (∀w':World,Below w6.heap.size w6 w'->_):=ah (λw' hb=>OM (qD p) s s2 (Jc p) aoc aod RS aS4 w' ((zk.o.same WJ.o).same hb) (aP9.o.same hb) ((Zk.o.same WJ.o).same hb) ((HTD.o.same nM.o).same hb) KF.o);have Ef:aj (∀w':World,Below w6.heap.size w6 w'->_):=ah (λw' hb=>HC3.o w' ((HP.o.same wF.o).same hb) ((iF.o.same wF.o).same hb));have tX:aj (∀w':World,Below w6.heap.size w6 w'->_):=ah (λw' hb=>Q8.o w' ((HP.o.same wF.o).same hb));have HAW:aj (∀w':World,Below w6.heap.size w6 w'->_):=ah (λw' hb=>Ui w' ((iF.o.same wF.o).same hb));generalize qD p=W at *;generalize Jc p=l at *;generalize QC p=er at *;clear HB2 HX HB3 zl zk Zk dH vN A8 lJ jS wM Xf WK TU HTD nM WJ HC3 Q8;have C: ∀(j:Nat) (u:Value),_->∀w',Below w6.heap.size w6 w'->w'.cell? ⟨cb,j,none⟩=some u:=λj u hu w' hb=>au ((hb.block _ (Array.getElem?_eq_some_iff.1 Xg.o).1).trans Xg.o) hu;have D: ∀(j:Nat) (u:Value),_->∀w',Below w6.heap.size w6 w'->w'.cell? ⟨db,j,none⟩=some u:=λj u hu w' hb=>au ((hb.block _ (Array.getElem?_eq_some_iff.1 Ck.o).1).trans Ck.o) hu;have C0:=C 0 _ rfl;have C1:=C 1 _ rfl;have C2:=C 2 _ rfl;have C3:=C 3 _ rfl;have C4:=C 4 _ rfl;have C5:=C 5 _ rfl;have C6:=C 6 _ rfl;have D0:=D 0 _ rfl;have D1:=D 1 _ rfl;have D2:=D 2 _ rfl;have D3:=D 3 _ rfl;have D4:=D 4 _ rfl;have D5:=D 5 _ rfl;have D6:=D 6 _ rfl;obtain⟨e0,e1⟩:=Cx Eu.o;have hpl:=(Array.getElem?_eq_some_iff.1 Eu.o).1;have E0:=fM hpl e0;have E1:=fM hpl e1;have al3:=TK.o;have ah5:=Ef.o;have ah6:=tX.o;have ag7:=HAW.o;clear C D e0 e1 hpl Xg Ck Eu TK Ef tX HAW;refine bf (by kernel_rfl) rfl ?_;refine aX 0 24 [] [[],[],[0,1],[0,1,2],[0,1,2,3],[0,1,2,3],[0,1,2,3,4,5],[0,1,2,3,4,5,6],[0,1,2,3,4,5,6,7],[0,1,2,3,4,5,6,7,8],[0,1,2,3,4,5,6,7,8],[0,1,2,3,4,5,6,7,8,9,10],[0,1,2,3,4,5,6,7,8,9,10,11],[0,1,2,3,4,5,6,7,8,9,10,11,12],[0,1,2,3,4,5,6,7,8,9,10,11,12,13],[0,1,2,3,4,5,6,7,8,9,10,11,12,13,14],[0,1,2,3,4,5,6,7,8,9,10,11,12,13],[0,1,2,3,4,5,6,7,8,9,10,11,12,13,14,15,16],[0,1,2,3,4,5,6,7,8,9,10,11,12,13,14,15,16,17],[0,1,2,3,4,5,6,7,8,9,10,11,12,13,14,15,16,17,18],[0,1,2,3,4,5,6,7,8,9,10,11,12,13,14,15,16,17,18,19],[0,1,2,3,4,5,6,7,8,9,10,11,12,13,14,15,16,17,18,19,20],[0,1,2,3,4,5,6,7,8,9,10,11,12,13,14,15,16,17,18,19,20,21],[0,1,2,3,4,5,6,7,8,9,10,11,12,13,14,15,16,17,18,19,20,21,22]] [[],[],[],[],[],[],[],[],[],[],[],[],[],[],[],[],[],[],[],[],[],[],[],[]] (λ_ w'=>Below w6.heap.size w6 w') (λw w'=>Below w.heap.size w w') [21,22,23,24,25,26,27,28,29,30,31,32,33,34,35,36,37,38,39,40,41,42,43,2] rfl rfl (by rfl) (by kernel_rfl) (by kernel_rfl) (by kernel_rfl) (by kernel_rfl) (by kernel_rfl) (by rfl) (λ_=>Below.refl _ _) (by rfl) (below_drewN (Below.refl _ _) 1) ?_;simp only[eP,jq]
 iterate 2
  apply aR.step
  case aJ=>intro c A w' hok hC hO hD;have e3:=hO 3 (by rfl);have e6:=hO 6 (by rfl);simp[Act.eval]at e3 e6;simp[Act.eval]at hD;simp[go_sem,gd,Oper.wp,hD,e3,e6,C0,C1,C2,C3,C4,C5,C6,hC,D0,D1,D2,D3,D4,D5,D6];exact aG.mk (Below.refl _ _) hC (aW.mk _ _)
 refine aR.some (λv _=>v= .bool true) (λ_ _ _ _ h=>h) ?_ ?_
 ·intro c A w' hok hC hO hD;simp[Act.eval]at hD;simp[go_sem,gd,Oper.wp,hD];refine(al3 w' hC).mono ?_;rintro e w5 ⟨rfl,hb⟩;exact aG.mk hb (hC.trans (hb.mono hC.size)) rfl
 try simp only[bP]
 iterate 12
  apply aR.step
  case aJ=>intro c A w' hok hC hO hD;have e4:=hO 4 (by rfl);have e7:=hO 7 (by rfl);have e5:=hO 5 (by rfl);have e8:=hO 8 (by rfl);have e1:=hO 1 (by rfl);simp[Act.eval]at e4 e7 e5 e8 e1;simp[Act.eval]at hD;simp[go_sem,gd,Oper.wp,hD,e4,e7,e5,e8,e1,E0,E1,hC];exact aG.mk (Below.refl _ _) hC (aW.mk _ _)
  try simp only[bP]
 refine aR.some (λv w'=> ∃t,v=nD W t∧fJ w' w'.heap.size W t) (λv w1 w' hle ⟨t,h1,h2⟩=>⟨t,h1,h2.same hle⟩) ?_ ?_
 ·intro c A w' hok hC hO hD;simp[Act.eval]at hD;simp[go_sem,gd,Oper.wp,hD];refine(ah5 w' hC).mono ?_;rintro e w5 ⟨t,rfl,ht,hb,-⟩;exact aG.mk hb (hC.trans (hb.mono hC.size)) ⟨t,rfl,ht⟩
 apply aR.step
 case aJ=>intro c A w' hok hC hO hD;have e1:=hO 1 (by rfl);simp[Act.eval]at e1;simp[Act.eval]at hD;simp[go_sem,gd,Oper.wp,hD,e1,E0,E1,hC];exact aG.mk (Below.refl _ _) hC (aW.mk _ _)
 try simp only[bP]
 refine aR.some (λv w'=> ∃t,v=nD W t∧fJ w' w'.heap.size W t) (λv w1 w' hle ⟨t,h1,h2⟩=>⟨t,h1,h2.same hle⟩) ?_ ?_
 ·intro c A w' hok hC hO hD;simp[Act.eval]at hD;simp[go_sem,gd,Oper.wp,hD];refine(ah6 w' hC).mono ?_;rintro e w5 ⟨t,rfl,ht,hb,-⟩;exact aG.mk hb (hC.trans (hb.mono hC.size)) ⟨t,rfl,ht⟩
 refine aR.some (λv _=>v= .bool true) (λ_ _ _ _ h=>h) ?_ ?_
 ·intro c A w' hok hC hO hD;simp[Act.eval]at hD;obtain⟨⟨t,ht1,ht2⟩,⟨t2,hu1,hu2⟩,h34⟩:=hD;simp[go_sem,gd,Oper.wp,ht1,hu1,h34];refine(E5 W t t2 w' ht2 hu2).mono ?_;rintro e w5 ⟨rfl,hb⟩;exact aG.mk hb (hC.trans (hb.mono hC.size)) rfl
 try simp only[bP]
 iterate 2
  apply aR.step
  case aJ=>intro c A w' hok hC hO hD;simp[Act.eval]at hD;simp[go_sem,gd,Oper.wp,hD];exact aG.mk (Below.refl _ _) hC (aW.mk _ _)
 refine aR.some (λv _=>v= .bool true) (λ_ _ _ _ h=>h) ?_ ?_
 ·intro c A w' hok hC hO hD;simp[Act.eval]at hD;simp[go_sem,gd,Oper.wp,hD];refine(ag7 w' hC).mono ?_;rintro e w5 ⟨rfl,hb⟩;exact aG.mk hb (hC.trans (hb.mono hC.size)) rfl
 try simp only[bP]
 iterate 2
  apply aR.step
  case aJ=>intro c A w' hok hC hO hD;simp[Act.eval]at hD;simp[go_sem,gd,Oper.wp,hD];exact aG.mk (Below.refl _ _) hC (aW.mk _ _)
  try simp only[bP]
 try simp only[bP]
 refine aR.done ?_;intro wz bH
 try simp only[eP]
 iterate 15 refine jv ?_
 intro v15 zA;refine jv ?_;intro v17 GK
 iterate 6 refine jv ?_
 clear zA GK;refine dA.nil ?_;go_simp;have Z6:=ah (wF.o.trans (bH.mono wF.o.size));clear C0 C1 C2 C3 C4 C5 C6 D0 D1 D2 D3 D4 D5 D6 E0 E1 al3 ah5 ah6 ag7 bH;refine bT rfl ?_;go_simp;go_wp2_with fail;go_ret;exact⟨rfl,Z6.o⟩
end Go.Proofs.YtkmllehjemjgpaaGreatDoor
end
section
namespace Go.Proofs.YtkmllehjemjgpaaGreatDoor.compileTells
open Go.ChangeShapes Go.WideShapes Go.ChangeAt Go.RowKit
open Go.WideMaps Go.WideElems
open Go.ChangeMaps (open_string shut_string)
theorem keywords {W:World} (h:laidMetH Tryz.prog Rows.compileTellsUptoRow.laid W):dD W:=
 SB (by kernel_rfl) (laidMet.tail (laidMet.tail (laidMet.tail (laidMet.tail (laidMet.tail (laidMet.tail (show laidMet Tryz.prog Rows.compileTellsUptoRow.laid W from h)))))))
theorem contract (H:Type) (enc:TypeId×Value->H) (W:World) (base:Nat) (args:Array Value) (ds gs:List (DataW H)) (before:List MemPlace)
 (hval: ∀(j:Nat) t v,Tryz.f3.params[j]? =some t->args[j]? =some v->Value.okWide Tryz.prog W .any base t v)
 (hW:DataW.Whole enc Tryz.prog Tryz.f3.params.toList Rows.compileTellsSpec.vars false W args.toList ds gs before) (hL:laidMetH Tryz.prog Rows.compileTellsUptoRow.laid W) (hb:Rows.uptoBulkAll (ds++gs)<=1048576):
 Calls Tryz.prog 3 args W λe W'=> ∃v,e= .returned v∧Rows.compileTellsSpec.post enc Tryz.prog Tryz.f3 false true false false W args v W':=by
 have hW':=hW;obtain⟨p,q,QH,hV,rfl,hfz,hnd⟩:=hW;have hA:DataW.TrodAll enc Tryz.prog W 0 (λ_=>true) true Tryz.f3.params.toList args.toList ds p:=QH;rw[Tryz.params3]at hA hval;obtain⟨v0,vs0,d0,ds0,p0,q0,hargs,rfl,rfl,h0,r0⟩:=trodAll_cons hA;obtain⟨rfl,rfl,rfl⟩:=trodAll_nil r0;obtain rfl:args= #[v0]:=by cases args;simp_all
 obtain⟨rfl,rfl⟩:=trodVars_none hV;have hk0:=h0;have aI: ∀x∈p0,x.block<W.heap.size:=λx hx=>by have:=hW'.lt x;simp[hx]at this;exact this
 obtain⟨q0,aR6,aR7,aB1,aB2,rfl,aV6,aV8,aV9,aB7⟩:=Vy (hval 0 25 v0 rfl rfl) h0 (by simpa[Rows.uptoBulkAll]using hb);clear QH;simp only[List.append_nil]at hW';refine(Gl q0 aR6 aR7 aB1 aB2 aV6 aV8 aV9 aB7 (keywords hL)).mono λe W' ⟨he,hg⟩=> ?_;subst he;exact⟨_,rfl,_,_,_,[],_,[],hW',trodAll_cons_mk (shut_bool Tryz.underlying4 _) trodAll_mk0,(trodAll_cons_mk (Below.trod Tryz.laidOut (by kernel_rfl) (of_decide_eq_true (by kernel_rfl)) hk0 hg aI) trodAll_mk0),rfl,hg.frame _,λh=>by cases h⟩
theorem Yh (os:Os):laidMet Tryz.prog Rows.compileTellsUptoRow.laid ((Fu os).forCall (λ_ _=>0) ⟨#[],#[.agg #[.slice none 0 0,.slice none 0 0]],[]⟩).memory:=
 laidMet_of_run' 8 (by kernel_rfl) (by kernel_rfl)
theorem reads (os:Os) {H:Type} (enc:TypeId×Value->H): ∃places,DataW.whole enc Tryz.prog ((Fu os).forCall (λ_ _=>0) ⟨#[],#[.agg #[.slice none 0 0,.slice none 0 0]],[]⟩).memory Tryz.f3.params.toList Rows.compileTellsSpec.vars false (#[.agg #[.slice none 0 0,.slice none 0 0]]:Array Value).toList 8=some ([.agg [.nil,.nil]],[],places):=
 ⟨[],by kernel_rfl⟩
theorem lifted (os:Os) (started:os.Started) (H:Type) (enc:TypeId×Value->H) (F:Stop.Interp):
 ReturnsInHanded {} Tryz.checked os 3 .any ((Rows.OpenSpec.upto Rows.compileTellsSpec).preRow enc Tryz.prog Tryz.f3 Rows.compileTellsUptoRow.domain false Rows.compileTellsUptoRow.laid) (((Rows.OpenSpec.upto Rows.compileTellsSpec).at F).post enc Tryz.prog Tryz.f3 false true false false):=by
 obtain⟨places,hx⟩:=reads os enc;refine returnsInHanded_of_row (C:=Tryz.checked) (s:=Rows.OpenSpec.upto Rows.compileTellsSpec) own started (by kernel_rfl) Tryz.func3
  (witness_row_at (enc:=enc) (C:=Tryz.checked) false (Fu os) #[.agg #[.slice none 0 0,.slice none 0 0]] rfl (by kernel_rfl) (by kernel_rfl) (by kernel_rfl)
   (OpenSpec.preRow_of_cond 8 hx (by kernel_rfl) (λk hk=>by cases hk;kernel_rfl) (by kernel_rfl) (Yh os))) ?_
 intro W base args ds gs before hval hW _ hcond _ hL _ _;exact contract H enc W base args ds gs before hval hW hL (of_decide_eq_true (hcond _ rfl))
theorem said:Rows.CompileTellsUptoSaid:=
 OpenClaim.holds_of_cond 3 Tryz.f3 rfl rfl rfl rfl rfl rfl rfl ⟨rfl,rfl,rfl,rfl,rfl⟩ rfl rfl rfl rfl rfl (by kernel_rfl) Tryz.func3 (by kernel_rfl)
  (of_decide_eq_true (by kernel_rfl)) (by unfold Func.isWrapper;first|(rw[if_pos (by decide+kernel)];kernel_rfl)|(rw[if_neg (by decide+kernel)];exact⟨rfl,rfl⟩))
  (λos started H enc _ F=>by rw[OpenClaim.pre_eq_preRow];exact lifted os started H enc F)
theorem plain (f:FuncId) (fn:Func) (hf:Tryz.pinned.checked.prog.funcNamed Rows.compileTellsUptoRow.func=some f) (hfn:Tryz.pinned.checked.prog.funcs[f]? =some fn):
 true=Tryz.pinned.checked.prog.looks []∧∀(j:Nat) t,fn.params[j]? =some t->Tryz.pinned.checked.prog.wantsStandIn t=false:=by
 obtain rfl:f=3:=Option.some.inj ((show Tryz.prog.funcNamed Rows.compileTellsUptoRow.func=some 3 by kernel_rfl).symm.trans hf) |>.symm;obtain rfl:fn=Tryz.f3:=(Option.some.inj (Tryz.func3.symm.trans hfn)).symm;refine⟨by kernel_rfl,λj t ht=> ?_⟩;rw[Tryz.params3]at ht;have hm:=Array.mem_of_getElem? ht;simp only[List.mem_toArray,List.mem_cons,List.not_mem_nil,or_false]at hm;rcases hm with rfl
 ·exact(show Tryz.prog.wantsStandIn 25=false by kernel_rfl)
theorem card:Rows.CompileTellsUptoCardSaid:=
 Claim7.holds_tied_plain_at .later [] _ _ _ _ said (λ_ h=>by cases h) (by kernel_rfl) (λ_ h=>by cases h) compileTellsUpto_row_tie rfl ⟨rfl,rfl⟩ (by kernel_rfl) rfl plain (by kernel_rfl)
end Go.Proofs.YtkmllehjemjgpaaGreatDoor.compileTells
end
