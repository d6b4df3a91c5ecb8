/-
  Contract of the reference walk's one: at spawn and set.
  Contract of the reference walk's one: at set.
-/
import Derived.Test.YtnknfoibmgphnaaDoorGRC
import Derived.Test.YtnknfoibmgphnaaDoorGRA
import Derived.Test.YtnknfoibmgphnaaDoorGRF
import Derived.Test.YtnknfoibmgphnaaDoorGMdRefX
import Derived.IntWalk
import Derived.Deep.RegionWith
section
set_option linter.unusedSimpArgs false
set_option linter.unusedVariables false
namespace Go.Proofs.YtnknfoibmgphnaaDoor
open Go.RowKit
open Md
def lu (w:World) (L:nu) (p:Pr) (aC aF:Option Addr) (aA av:Nat) (i:Int) (A:List Fr) (fs gs:List ByteArray) (v vs ve:Value) (Na gs2:List ByteArray) (r:Int) (e:Ending) (w':World):Prop:=
 e= .returned (.int .i64 r)∧Kw L [v,vs,ve] w w'∧ ∃fs' gs' vs' ve',jF w [v,vs,ve] [v,vs',ve']∧jc w' L p aC aF aA av i A fs' gs' v vs' ve'∧(r=0→fs'=Na∧gs'=gs2)
theorem lu.err {w w':World} {L:nu} {p:Pr} {aC aF:Option Addr} {aA av:Nat} {i:Int} {A:List Fr} {fs gs:List ByteArray} {v vs ve:Value} {Na gs2:List ByteArray} {r x:Int}
 (hI:jc w L p aC aF aA av i A fs gs v vs ve) (hr:r=x) (h0:r≠0) (hb:Below w.heap.size w w'):lu w L p aC aF aA av i A fs gs v vs ve Na gs2 r (.returned (.int .i64 x)) w':=by
 subst hr
 exact ⟨rfl,Kw.of_below hb,fs,gs,vs,ve,jF.refl _ _,hI.below hb,fun h=>(h0 h).elim⟩
theorem Jj:(Tryd.prog.info? 9).map (fun i=>(i.zero,i.size,i.bytes))=some (some (.string ⟨#[]⟩),1,16):=by kernel_rfl
theorem EC: ∃i0,Tryd.prog.info? 9=some i0∧i0.zero=some (.string ⟨#[]⟩)∧i0.size=1∧i0.bytes=16:=info_parts Jj
set_option maxHeartbeats 4000000 in
set_option maxRecDepth 100000 in
theorem Mi (L:nu) (p:Pr) (w:World) (aC aF:Option Addr) (aA av:Nat) (i:Int) (A:List Fr) (fs gs:List ByteArray) (v vs ve:Value) (hI:jc w L p aC aF aA av i A fs gs v vs ve) (h:eH) (b e:aR) (s:Sl) (hin:nQ w L.B0 h b e s) (hi:aX i) (hA:A.length≤maxLen) (hfs:fs.length≤1000000000000) (hgs:gs.length≤1000000000000) (hop:h.op=12):
 Calls Tryd.prog 39 #[.pointer (some ⟨L.bc,0,none⟩),aY h b e s] w (lu w L p aC aF aA av i A fs gs v vs ve (fs++[h.nm]) gs (if bR (conv (mean p i h.nm)) 7 7 != 0 then bR (conv (mean p i h.nm)) 7 7 else if ((((aU (bF A) 7 7 ⟨#[]⟩ || aU (bF A) 8 8 ⟨#[]⟩) || aU (bF A) 3 3 ⟨#[]⟩) || kY p.ts h.nm == i) || kY p.ts h.nm == 0) then 7 else iN (kr fs h.nm.toList))):=by
 obtain ⟨aJ,aI,rfl,hat⟩:=hI.form
 obtain ⟨bV,bf,rfl,Ik⟩:=hI.Gi
 obtain ⟨bW,aZ,rfl,IW⟩:=hI.Gy
 have hp:=hI.dat.use hI.b0
 have hh:=hI.holds
 have har:(bF A).len≤maxLen:=by rw [mU]; exact hA
 replace hin:=hin.use hI.b0
 have HI:=Lib.hid hI
 have vO:=Lib.hid Ik
 have iR:=Lib.hid IW
 generalize hres:(if bR (conv (mean p i h.nm)) 7 7 != 0 then bR (conv (mean p i h.nm)) 7 7 else if ((((aU (bF A) 7 7 ⟨#[]⟩ || aU (bF A) 8 8 ⟨#[]⟩) || aU (bF A) 3 3 ⟨#[]⟩) || kY p.ts h.nm == i) || kY p.ts h.nm == 0) then 7 else iN (kr fs h.nm.toList))=res
 have HR:Hid (res=(if bR (conv (mean p i h.nm)) 7 7 != 0 then bR (conv (mean p i h.nm)) 7 7 else if ((((aU (bF A) 7 7 ⟨#[]⟩ || aU (bF A) 8 8 ⟨#[]⟩) || aU (bF A) 3 3 ⟨#[]⟩) || kY p.ts h.nm == i) || kY p.ts h.nm == 0) then 7 else iN (kr fs h.nm.toList))):=Lib.hid (by rw [← hres])
 have iG:=Lib.hid hop
 have OW:=Lib.hid hin.1.2.2.1
 have F6:=Lib.hid hfs
 have FJ:=Lib.hid hgs
 clear hres hop hI Ik IW hA hfs hgs
 have HH:=Lib.hid (show Sit w w _ from ⟨Below.refl _ _,hh⟩)
 have jS:=Lib.hid hin
 have dG:=Lib.hid hat
 have dw:=Lib.hid har
 have HP:=Lib.hid hp
 unfold aY
 clear hh hin hat har hp
 go_enter Tryd.func39,Tryd.ntmps39
 go_upto_region 1 with fail
 generalize hW:World.alloc w _=W
 generalize Value.agg #[_,_,_,_,_,_,_,_,_,_,_]=a0
 have HX:Hid (Sit w W (iT w.heap.size h b e s (kE L.bc p aC aF aA av i aJ (bF A).len aI bV fs.length bf bW gs.length aZ))):=Lib.hid (by rw [← hW]; exact HH.out.gZ rfl _ _ _ _ _ _ _ _ _ _ _ _)
 clear hW HH
 have K0: ∀w',Below W.heap.size W w'→w'.cell? ⟨L.bc,0,none⟩=some (.slice aC p.ds.length aA):=fun w' hb=>(HX.out.next hb).2.2.2.2.2.2.2.2.2.2.2.2.1.2
 have K1: ∀w',Below W.heap.size W w'→w'.cell? ⟨L.bc,1,none⟩=some (.slice aF p.ts.length av):=fun w' hb=>(HX.out.next hb).2.2.2.2.2.2.2.2.2.2.2.2.2.1.2
 have K2: ∀w',Below W.heap.size W w'→w'.cell? ⟨L.bc,2,none⟩=some (.int .i64 i):=fun w' hb=>(HX.out.next hb).2.2.2.2.2.2.2.2.2.2.2.2.2.2.1.2
 have HD1:Below W.heap.size W (W.drewN 1):=below_drewN (Below.refl _ _) 1
 refine cu (by kernel_rfl) rfl ?_
 generalize W.drewN 1=W1 at *
 refine bG 0 11 [8,9] [[],[0],[0,1],[0,1,2],[],[4],[4,5],[4,5,6],[],[0,1,2,3,8],[0,1,2,3,4,5,6,7,8,9]] [[none,some false],[none,some false],[none,some false],[none,some false],[none,none],[none,none],[none,none],[none,none],[some false,some false],[some true,some false],[some true,some true]] (AC W1 (.cells #[.slice none 0 0,.slice none 0 0] 26) (.cells #[.slice aC p.ds.length aA,.slice aF p.ts.length av] 26)) (fun _ _=>True) [15,16,17,18,19,20,21,22,5,6] rfl rfl (by rfl) (by kernel_rfl) (by kernel_rfl) (by kernel_rfl) (by kernel_rfl) (by kernel_rfl) (by rfl) (fun _=>trivial) (by rfl) rfl ?_
 simp only [List.take_succ_cons,List.take_zero,List.drop_zero,List.drop_succ_cons,gP,List.map_cons,List.map_nil]
 apply aH.step
 case aB=>
  intro c A w' hok hC hO hD
  have e0:=hO 0 (by rfl)
  simp [Act.eval] at e0
  simp [au,ah,aj,Act.eval,Region.binds] at hD
  simp [go_sem,gd,Oper.wp,hD,e0]
  exact ak.mk trivial (AC.skip (by rfl) (by rfl) hC) (ah.mk _ _)
 apply aH.step
 case aB=>
  intro c A w' hok hC hO hD
  simp [au,ah,aj,Act.eval,Region.binds] at hD
  simp [go_sem,gd,Oper.wp,hD]
  exact ak.mk trivial (AC.skip (by rfl) (by rfl) hC) (ah.mk _ _)
 apply aH.step
 case aB=>
  intro c A w' hok hC hO hD
  simp [au,ah,aj,Act.eval,Region.binds] at hD
  simp [go_sem,gd,Oper.wp,hD]
  exact ak.mk trivial (AC.skip (by rfl) (by rfl) hC) (ah.mk _ _)
 apply aH.step
 case aB=>
  intro c A w' hok hC hO hD
  simp [au,ah,aj,Act.eval,Region.binds] at hD
  simp [go_sem,gd,Oper.wp,hD,K0,K1,AC.below HD1 hC]
  exact ak.mk trivial (AC.skip (by rfl) (by rfl) hC) (ah.mk _ _)
 apply aH.step
 case aB=>
  intro c A w' hok hC hO hD
  have e0:=hO 0 (by rfl)
  simp [Act.eval] at e0
  simp [au,ah,aj,Act.eval,Region.binds] at hD
  simp [go_sem,gd,Oper.wp,hD,e0]
  exact ak.mk trivial (AC.skip (by rfl) (by rfl) hC) (ah.mk _ _)
 simp only [List.nil_append,List.cons_append]
 apply aH.step
 case aB=>
  intro c A w' hok hC hO hD
  simp [au,ah,aj,Act.eval,Region.binds] at hD
  simp [go_sem,gd,Oper.wp,hD]
  exact ak.mk trivial (AC.skip (by rfl) (by rfl) hC) (ah.mk _ _)
 apply aH.step
 case aB=>
  intro c A w' hok hC hO hD
  simp [au,ah,aj,Act.eval,Region.binds] at hD
  simp [go_sem,gd,Oper.wp,hD]
  exact ak.mk trivial (AC.skip (by rfl) (by rfl) hC) (ah.mk _ _)
 apply aH.step
 case aB=>
  intro c A w' hok hC hO hD
  simp [au,ah,aj,Act.eval,Region.binds] at hD
  simp [go_sem,gd,Oper.wp,hD,K2,AC.below HD1 hC]
  exact ak.mk trivial (AC.skip (by rfl) (by rfl) hC) (ah.mk _ _)
 simp only [List.nil_append,List.cons_append]
 apply aH.step
 case aB=>
  intro c A w' hok hC hO hD
  obtain ⟨x,y,rfl⟩:=hC.bits
  obtain ⟨rfl,rfl,-⟩:=hok
  have hw:w'=W1:=hC
  subst hw
  simp [go_sem,gd,Oper.wp]
  exact ak.mk trivial (AC.lay (by rfl) (by rfl)) (ah.mk _ _)
 refine aH.some (fun _ _=>True) (fun _ _ _ _ _=>trivial) ?_ ?_
 ·intro c A w' hok hC hO hD
  obtain ⟨x,y,rfl⟩:=hC.bits
  obtain ⟨rfl,rfl,-⟩:=hok
  have hw:w'=W1.alloc _:=hC
  subst hw
  simp [au,ah,aj,Act.eval,Region.binds] at hD
  simp [go_sem,gd,Oper.wp,hD]
  exact ak.mF (v:=undef) trivial (AC.fill (by rfl) (by rfl)) trivial
 simp only [List.nil_append,List.cons_append]
 apply aH.step
 case aB=>
  intro c A w' hok hC hO hD
  simp [au,ah,aj,Act.eval,Region.binds] at hD
  simp [go_sem,gd,Oper.wp,hD]
  exact ak.mk trivial (AC.skip (by rfl) (by rfl) hC) (ah.mk _ _)
 simp only [List.nil_append,List.cons_append]
 refine aH.done ?_
 intro wz bK
 simp only [List.drop_zero]
 intro v0 h0 v1 h1 v2 h2 v3 h3 v4 h4 v5 h5 v6 h6 v7 h7 v8 h8 v9 h9 v10 h10
 have h8':v8=_:=h8
 have jG:v10=_:=h10
 subst h8' jG
 clear h0 h1 h2 h3 h4 h5 h6 h7 h8 h9 h10
 refine bM.nil ?_
 refine dQ rfl ?_
 have gN:wz=W1.alloc _:=bK
 generalize hn1:W1.heap.size=n1 at *
 have HY:=Lib.hid ((HX.out.next HD1).kC hn1 (.slice aC p.ds.length aA) (.slice aF p.ts.length av) 26)
 rw [← gN] at HY
 clear bK gN HX K0 K1 K2 HD1 hn1
 go_simp
 obtain ⟨-,⟨-,c0⟩,⟨-,c1⟩,⟨-,c2⟩,⟨-,c3⟩,⟨-,c4⟩,⟨-,c5⟩,⟨-,c6⟩,⟨-,c7⟩,⟨-,c8⟩,⟨-,c9⟩,⟨-,c10⟩,⟨-,c11⟩,⟨-,c12⟩,⟨-,c13⟩,⟨-,c14⟩,⟨-,c15⟩,⟨-,c16⟩,⟨-,c17⟩,⟨-,c18⟩,-⟩:=HY.out
 go_wp2_with fail
 refine (aQ p _ aC aF aA av i aJ aI L.bc bV fs.length bf bW gs.length aZ (bF A) 7 7 ⟨#[]⟩ dw.out (dG.out.same HY.out.1) (bQ HY.out)).mono ?_
 rintro e' W ⟨rfl,hb⟩
 replace HY:=Lib.hid (HY.out.next hb)
 clear hb c0 c1 c2 c3 c4 c5 c6 c7 c8 c9 c10 c11 c12 c13 c14 c15 c16 c17 c18
 obtain ⟨-,⟨-,c0⟩,⟨-,c1⟩,⟨-,c2⟩,⟨-,c3⟩,⟨-,c4⟩,⟨-,c5⟩,⟨-,c6⟩,⟨-,c7⟩,⟨-,c8⟩,⟨-,c9⟩,⟨-,c10⟩,⟨-,c11⟩,⟨-,c12⟩,⟨-,c13⟩,⟨-,c14⟩,⟨-,c15⟩,⟨-,c16⟩,⟨-,c17⟩,⟨-,c18⟩,-⟩:=HY.out
 go_wp2_with fail
 refine (aQ p _ aC aF aA av i aJ aI L.bc bV fs.length bf bW gs.length aZ (bF A) 8 8 ⟨#[]⟩ dw.out (dG.out.same HY.out.1) (bQ HY.out)).mono ?_
 rintro e' W ⟨rfl,hb⟩
 replace HY:=Lib.hid (HY.out.next hb)
 clear hb c0 c1 c2 c3 c4 c5 c6 c7 c8 c9 c10 c11 c12 c13 c14 c15 c16 c17 c18
 obtain ⟨-,⟨-,c0⟩,⟨-,c1⟩,⟨-,c2⟩,⟨-,c3⟩,⟨-,c4⟩,⟨-,c5⟩,⟨-,c6⟩,⟨-,c7⟩,⟨-,c8⟩,⟨-,c9⟩,⟨-,c10⟩,⟨-,c11⟩,⟨-,c12⟩,⟨-,c13⟩,⟨-,c14⟩,⟨-,c15⟩,⟨-,c16⟩,⟨-,c17⟩,⟨-,c18⟩,-⟩:=HY.out
 go_wp2_with fail
 refine (aQ p _ aC aF aA av i aJ aI L.bc bV fs.length bf bW gs.length aZ (bF A) 3 3 ⟨#[]⟩ dw.out (dG.out.same HY.out.1) (bQ HY.out)).mono ?_
 rintro e' W ⟨rfl,hb⟩
 replace HY:=Lib.hid (HY.out.next hb)
 clear hb c0 c1 c2 c3 c4 c5 c6 c7 c8 c9 c10 c11 c12 c13 c14 c15 c16 c17 c18
 obtain ⟨-,⟨-,c0⟩,⟨-,c1⟩,⟨-,c2⟩,⟨-,c3⟩,⟨-,c4⟩,⟨-,c5⟩,⟨-,c6⟩,⟨-,c7⟩,⟨-,c8⟩,⟨-,c9⟩,⟨-,c10⟩,⟨-,c11⟩,⟨-,c12⟩,⟨-,c13⟩,⟨-,c14⟩,⟨-,c15⟩,⟨-,c16⟩,⟨-,c17⟩,⟨-,c18⟩,-⟩:=HY.out
 generalize htx:aU (bF A) 7 7 ⟨#[]⟩=tx at *
 generalize hat':aU (bF A) 8 8 ⟨#[]⟩=nK at *
 generalize hlo:aU (bF A) 3 3 ⟨#[]⟩=lop at *
 clear htx hat' hlo
 have hop:=iG.out
 have g1:(h.op == 1)=false:=by rw [hop]; rfl
 have g2:(h.op == 2)=false:=by rw [hop]; rfl
 have g3:(h.op == 3)=false:=by rw [hop]; rfl
 have g4:(h.op == 4)=false:=by rw [hop]; rfl
 have g5:(h.op == 5)=false:=by rw [hop]; rfl
 have g6:(h.op == 6)=false:=by rw [hop]; rfl
 have g7:(h.op == 7)=false:=by rw [hop]; rfl
 have g8:(h.op == 8)=false:=by rw [hop]; rfl
 have g9:(h.op == 9)=false:=by rw [hop]; rfl
 have g10:(h.op == 10)=false:=by rw [hop]; rfl
 have g11:(h.op == 11)=false:=by rw [hop]; rfl
 have g12:(h.op == 12)=true:=by rw [hop]; rfl
 have g13:(h.op == 13)=false:=by rw [hop]; rfl
 have g14:(h.op == 14)=false:=by rw [hop]; rfl
 have g15:(h.op == 15)=false:=by rw [hop]; rfl
 clear hop
 go_wp2_with fail
 refine (fM p i h.nm 7 7 _ aC aF aA av hi (HP.out.same HY.out.1)).mono ?_
 rintro e' W ⟨rfl,hb⟩
 replace HY:=Lib.hid (HY.out.next hb)
 clear hb c0 c1 c2 c3 c4 c5 c6 c7 c8 c9 c10 c11 c12 c13 c14 c15 c16 c17 c18
 obtain ⟨-,⟨-,c0⟩,⟨-,c1⟩,⟨-,c2⟩,⟨-,c3⟩,⟨-,c4⟩,⟨-,c5⟩,⟨-,c6⟩,⟨-,c7⟩,⟨-,c8⟩,⟨-,c9⟩,⟨-,c10⟩,⟨-,c11⟩,⟨-,c12⟩,⟨-,c13⟩,⟨-,c14⟩,⟨-,c15⟩,⟨-,c16⟩,⟨-,c17⟩,⟨-,c18⟩,-⟩:=HY.out
 generalize bR (conv (mean p i h.nm)) 7 7=q at *
 cases hq:(q != 0)
 case true=>
  have HR':Hid (res=q):=Lib.hid (HR.out.trans (if_pos hq))
  have TB:Hid (q≠0):=Lib.hid (by simpa using hq)
  clear HR
  go_wp2_with fail
  go_ret
  exact lu.err HI.out HR'.out (by rw [HR'.out]; exact TB.out) HY.out.1
 have HR1:=Lib.hid (HR.out.trans (if_neg (by rw [hq]; decide)))
 clear HR
 go_wp2_with fail
 refine (kR p.ts h.nm _ aF av HP.out.2.1 (HP.out.same HY.out.1).2.2.2).mono ?_
 rintro e' W' ⟨rfl,rfl⟩
 generalize kY p.ts h.nm=kk at *
 go_upto_region 35 with fail
 go_cut [187] (fun s' W3=>W=W3∧s'= .bool ((((tx || nK) || lop) || kk == i) || kk == 0))
 case first=>
  as_aux_lemma=>
   cases tx
   ·cases nK
    ·cases lop
     ·cases hki:(kk == i)
      ·cases hk0:(kk == 0)
       all_goals go_wp2_with fail
       all_goals go_meet
       all_goals exact ⟨rfl,by first | rfl | (rw [hki,hk0]; rfl) | (simp [hki,hk0])⟩
      ·go_wp2_with fail
       go_meet
       exact ⟨rfl,by first | rfl | (rw [hki]; rfl) | (simp [hki])⟩
     ·go_wp2_with fail
      go_meet
      exact ⟨rfl,by first | rfl | simp⟩
    ·go_wp2_with fail
     go_meet
     exact ⟨rfl,by first | rfl | simp⟩
   ·go_wp2_with fail
    go_meet
    exact ⟨rfl,by first | rfl | simp⟩
 obtain ⟨rfl,rfl⟩:=hcut
 generalize ((((tx || nK) || lop) || kk == i) || kk == 0)=tt at *
 cases tt
 case true=>
  have HR':Hid (res=7):=HR1
  clear HR1
  go_wp2_with fail
  go_ret
  exact lu.err HI.out HR'.out (by rw [HR'.out]; decide) HY.out.1
 have HR2:Hid (res=iN (kr fs h.nm.toList)):=HR1
 clear HR1
 have Ar:=Lib.hid (xE fs h.nm)
 go_upto_region 37 with fail
 obtain ⟨T,F,qz,hst,hF,hnext⟩:=calm W
 have HF:=Lib.hid hF
 have bS:=Lib.hid hnext
 clear hnext hF
 have d0:=fun x=>(HY.out.next (HF.out x)).2.1.2
 have d1:=fun x=>(HY.out.next (HF.out x)).2.2.1.2
 have d2:=fun x=>(HY.out.next (HF.out x)).2.2.2.1.2
 have d3:=fun x=>(HY.out.next (HF.out x)).2.2.2.2.1.2
 have d4:=fun x=>(HY.out.next (HF.out x)).2.2.2.2.2.1.2
 have d5:=fun x=>(HY.out.next (HF.out x)).2.2.2.2.2.2.1.2
 have d6:=fun x=>(HY.out.next (HF.out x)).2.2.2.2.2.2.2.1.2
 have d7:=fun x=>(HY.out.next (HF.out x)).2.2.2.2.2.2.2.2.1.2
 have d8:=fun x=>(HY.out.next (HF.out x)).2.2.2.2.2.2.2.2.2.1.2
 have d9:=fun x=>(HY.out.next (HF.out x)).2.2.2.2.2.2.2.2.2.2.1.2
 have nk:=fun x=>(HY.out.next (HF.out x)).2.2.2.2.2.2.2.2.2.2.2.1.2
 have mQ:=fun x=>(HY.out.next (HF.out x)).2.2.2.2.2.2.2.2.2.2.2.2.1.2
 have qj:=fun x=>(HY.out.next (HF.out x)).2.2.2.2.2.2.2.2.2.2.2.2.2.1.2
 have qK:=fun x=>(HY.out.next (HF.out x)).2.2.2.2.2.2.2.2.2.2.2.2.2.2.1.2
 have nL:=fun x=>(HY.out.next (HF.out x)).2.2.2.2.2.2.2.2.2.2.2.2.2.2.2.1.2
 have qI:=fun x=>(HY.out.next (HF.out x)).2.2.2.2.2.2.2.2.2.2.2.2.2.2.2.2.1.2
 have qg:=fun x=>(HY.out.next (HF.out x)).2.2.2.2.2.2.2.2.2.2.2.2.2.2.2.2.2.1.2
 have qH:=fun x=>(HY.out.next (HF.out x)).2.2.2.2.2.2.2.2.2.2.2.2.2.2.2.2.2.2.1.2
 have pJ:=fun x=>(HY.out.next (HF.out x)).2.2.2.2.2.2.2.2.2.2.2.2.2.2.2.2.2.2.2.1.2
 clear c0 c1 c2 c3 c4 c5 c6 c7 c8 c9 c10 c11 c12 c13 c14 c15 c16 c17 c18
 rcases Ar.out with ⟨xI,nJ⟩ | ⟨jj,xI,nJ⟩
 case inr=>
  have yj:=Lib.hid xI
  have HR':Hid (res=8):=Lib.hid (HR2.out.trans (by rw [nJ]; rfl))
  have hj0:(0:Int)≤(jj:Int):=by omega
  clear Ar HR2 xI nJ
  refine gF F (by kernel_rfl) (by kernel_rfl) hst ?_
  repeat (any_goals (first | go_big_quiet_step ((first | (go_at_call 38; refine (kN fs h.nm _ bV bf (by have:=F6.out; unfold maxLen; omega) ((vO.out.same HY.out.1).same (HF.out _))).mono ?_; rintro e w' ⟨rfl,rfl⟩; rw [yj.out]; exact ⟨rfl,bS.out _ _ (Below.refl _ _)⟩))) | (refine wpQuiet_step (fun K hK=> ?_); go_simp; first | (refine hK _ ?_; clear hK K) | (split <;> first | (refine hK _ ?_; clear hK K) | (apply Exists.intro; refine ⟨fun _=> ?_,hK _ ?_⟩; ((first | (go_at_call 38; refine (kN fs h.nm _ bV bf (by have:=F6.out; unfold maxLen; omega) ((vO.out.same HY.out.1).same (HF.out _))).mono ?_; rintro e w' ⟨rfl,rfl⟩; rw [yj.out]; exact ⟨rfl,bS.out _ _ (Below.refl _ _)⟩))); clear hK K)))))
  all_goals (refine wpQuiet_nil ?_; rintro _ ⟨x,rfl⟩)
  replace HY:=Lib.hid (HY.out.next (HF.out x))
  clear d0 d1 d2 d3 d4 d5 d6 d7 d8 d9 nk mQ qj qK nL qI qg qH pJ HF bS hst
  generalize F x=W2 at *
  go_wp2_with fail
  go_ret
  exact lu.err HI.out HR'.out (by rw [HR'.out]; decide) HY.out.1
 have yj:=Lib.hid xI
 have HR':Hid (res=0):=Lib.hid (HR2.out.trans (by rw [nJ]; rfl))
 clear Ar HR2 xI nJ
 refine gF F (by kernel_rfl) (by kernel_rfl) hst ?_
 repeat (any_goals (first | go_big_quiet_step ((first | (go_at_call 38; refine (kN fs h.nm _ bV bf (by have:=F6.out; unfold maxLen; omega) ((vO.out.same HY.out.1).same (HF.out _))).mono ?_; rintro e w' ⟨rfl,rfl⟩; rw [yj.out]; exact ⟨rfl,bS.out _ _ (Below.refl _ _)⟩))) | (refine wpQuiet_step (fun K hK=> ?_); go_simp; first | (refine hK _ ?_; clear hK K) | (split <;> first | (refine hK _ ?_; clear hK K) | (apply Exists.intro; refine ⟨fun _=> ?_,hK _ ?_⟩; ((first | (go_at_call 38; refine (kN fs h.nm _ bV bf (by have:=F6.out; unfold maxLen; omega) ((vO.out.same HY.out.1).same (HF.out _))).mono ?_; rintro e w' ⟨rfl,rfl⟩; rw [yj.out]; exact ⟨rfl,bS.out _ _ (Below.refl _ _)⟩))); clear hK K)))))
 all_goals (refine wpQuiet_nil ?_; rintro _ ⟨x,rfl⟩)
 replace HY:=Lib.hid (HY.out.next (HF.out x))
 clear d0 d1 d2 d3 d4 d5 d6 d7 d8 d9 nk mQ qj qK nL qI qg qH pJ HF bS hst
 generalize F x=W2 at *
 have hI2:=HI.out.below HY.out.1
 have HI2:=Lib.hid hI2
 have K4: ∀w',Below W2.heap.size W2 w'→w'.cell? ⟨L.bc,4,none⟩=some (.slice bV fs.length bf):=fun w' hb=>(dM (HI2.out.below hb).blk (j:=4) rfl).2
 have K2: ∀w',Below W2.heap.size W2 w'→w'.cell? ⟨w.heap.size,2,none⟩=some (.string h.nm):=fun w' hb=>(HY.out.next hb).2.2.2.2.2.1.2
 have hd1:Below W2.heap.size W2 (W2.drewN 1):=below_drewN (Below.refl _ _) 1
 have hfs:=F6.out
 clear hI2 hq
 go_upto_region 39 with fail
 refine cu (by kernel_rfl) rfl ?_
 generalize W2.drewN 1=W5 at *
 have hd2:Below W2.heap.size W2 (W5.alloc (.cells #[.string h.nm] 9)):=hd1.trans ((ay _ _).mono hd1.size)
 obtain ⟨i0,hi0,hz0,hz1,hz2⟩:=EC
 obtain ⟨gg,cap,w4,hrun,nI,lS,sV,vX⟩:=run_append_lies (P:=Tryd.prog) (W5.alloc (.cells #[.string h.nm] 9)) 32 32 L.B1 9 i0 _ 1 16 Tryd.underlying32 hi0 hz0 hz1 hz2 rfl (by omega) (.slice bV fs.length bf) fs.length (vw fs) (HI2.out.below hd2).rs ⟨W5.heap.size,0,none⟩ 1 1 [.string h.nm] rfl (World.news_of_block (cs:= #[.string h.nm]) (heap_alloc_new W5 _)) (by simp [Value.oneCell']) (by omega) (by unfold maxLen; omega) (by omega) (HI2.out.below hd2).sz _ rfl
 have Jr:=Lib.hid hrun
 have HAD:=Lib.hid (HI2.out.RN OW.out hd2 nI lS sV)
 have gV:Hid (w4.heap[L.bc]? =some (.cells (KZ p aC aF aA av i (.slice aJ A.length aI) (.slice bV fs.length bf) (.slice bW gs.length aZ)) 60 (0,0))):=Lib.hid ((lS.block _ (Array.getElem?_eq_some_iff.1 (HI2.out.below hd2).blk).1 (fun e'=>HI2.out.Bl (u:= .slice bV fs.length bf) (by simp) e'.symm)).trans (HI2.out.below hd2).blk)
 have k4:w4.cell? ⟨L.bc,4,none⟩=some (.slice bV fs.length bf):=(dM gV.out (j:=4) rfl).2
 have f4:w4.frozen? ⟨L.bc,4,none⟩=false:=dH gV.out
 clear hrun nI lS sV vX hi0 hz0 hz1 hz2 gV
 refine bG 0 12 [7,8,11] [[],[],[1],[1,2],[1,2,3],[],[5],[5,6],[1,2,3,4,5,6,7],[0,1,2,3,4,5,6,7,8],[0,1,2,3,4,5,6,7,8,9],[0,1,2,3,4,5,6,7,8,9,10]] [[none,none,some false],[none,some false,some false],[none,some false,some false],[none,some false,some false],[none,some false,some false],[some false,some false,some false],[some false,some false,some false],[some false,some false,some false],[some true,some false,some false],[some true,some true,some false],[some true,some true,some false],[some true,some true,some false]] (C3 W5 (W5.alloc (.cells #[.string h.nm] 9)) w4 (w4.setCell ⟨L.bc,4,none⟩ (.slice (some ⟨gg,0,none⟩) (fs.length + 1) cap))) (fun _ _=>True) [196,197,198,199,200,201,202,203,204,205,206] rfl rfl (by rfl) (by kernel_rfl) (by kernel_rfl) (by kernel_rfl) (by kernel_rfl) (by kernel_rfl) (by rfl) (fun _=>trivial) (by rfl) rfl ?_
 simp only [List.take_succ_cons,List.take_zero,List.drop_zero,List.drop_succ_cons,gP,List.map_cons,List.map_nil]
 apply aH.step
 case aB=>
  intro c A w' hok hC hO hD
  have e0:=hO 0 (by rfl)
  simp [Act.eval] at e0
  simp [au,ah,aj,Act.eval,Region.binds] at hD
  simp [go_sem,gd,Oper.wp,hD,e0]
  exact ak.mk trivial (C3.skip (by rfl) (by rfl) (by rfl) hC) (ah.mk _ _)
 apply aH.step
 case aB=>
  intro c A w' hok hC hO hD
  have e0:=hO 0 (by rfl)
  simp [Act.eval] at e0
  simp [au,ah,aj,Act.eval,Region.binds] at hD
  simp [go_sem,gd,Oper.wp,hD,e0]
  exact ak.mk trivial (C3.skip (by rfl) (by rfl) (by rfl) hC) (ah.mk _ _)
 apply aH.step
 case aB=>
  intro c A w' hok hC hO hD
  simp [au,ah,aj,Act.eval,Region.binds] at hD
  simp [go_sem,gd,Oper.wp,hD]
  exact ak.mk trivial (C3.skip (by rfl) (by rfl) (by rfl) hC) (ah.mk _ _)
 apply aH.step
 case aB=>
  intro c A w' hok hC hO hD
  simp [au,ah,aj,Act.eval,Region.binds] at hD
  simp [go_sem,gd,Oper.wp,hD]
  exact ak.mk trivial (C3.skip (by rfl) (by rfl) (by rfl) hC) (ah.mk _ _)
 simp only [List.nil_append,List.cons_append]
 apply aH.step
 case aB=>
  intro c A w' hok hC hO hD
  simp [au,ah,aj,Act.eval,Region.binds] at hD
  simp [go_sem,gd,Oper.wp,hD,K4,C3.low hd1 hd2 hok hC]
  exact ak.mk trivial (C3.skip (by rfl) (by rfl) (by rfl) hC) (ah.mk _ _)
 apply aH.step
 case aB=>
  intro c A w' hok hC hO hD
  have e3:=hO 3 (by rfl)
  simp [Act.eval] at e3
  simp [au,ah,aj,Act.eval,Region.binds] at hD
  simp [go_sem,gd,Oper.wp,hD,e3]
  exact ak.mk trivial (C3.skip (by rfl) (by rfl) (by rfl) hC) (ah.mk _ _)
 apply aH.step
 case aB=>
  intro c A w' hok hC hO hD
  simp [au,ah,aj,Act.eval,Region.binds] at hD
  simp [go_sem,gd,Oper.wp,hD,K2,C3.low hd1 hd2 hok hC]
  exact ak.mk trivial (C3.skip (by rfl) (by rfl) (by rfl) hC) (ah.mk _ _)
 simp only [List.nil_append,List.cons_append]
 apply aH.step
 case aB=>
  intro c A' w' hok hC hO hD
  obtain ⟨rfl,rfl⟩:=C3.w1 hok hC
  simp [au,ah,aj,Act.eval,Region.binds] at hD
  simp [go_sem,gd,Oper.wp,hD]
  exact ak.mk trivial (C3.one (by rfl) (by rfl) (by rfl)) (ah.mk _ _)
 apply aH.step
 case aB=>
  intro c A' w' hok hC hO hD
  obtain ⟨rfl,rfl⟩:=C3.w2 hok hC
  simp [au,ah,aj,Act.eval,Region.binds] at hD
  simp only [gd,if_true]
  refine wp_append_run _ _ _ (.slice bV fs.length bf) (.slice (some ⟨W5.heap.size,0,none⟩) 1 1) _ (by rfl) (by simp [Act.eval,hD]) (by simp [Act.eval,hD]) Jr.out ?_
  exact ak.mk trivial (C3.two (by rfl) (by rfl) (by rfl)) (ah.mk _ _)
 simp only [List.nil_append,List.cons_append]
 apply aH.step
 case aB=>
  intro c A w' hok hC hO hD
  simp [au,ah,aj,Act.eval,Region.binds] at hD
  simp [go_sem,gd,Oper.wp,hD]
  exact ak.mk trivial (C3.skip (by rfl) (by rfl) (by rfl) hC) (ah.mk _ _)
 apply aH.step
 case aB=>
  intro c A w' hok hC hO hD
  simp [au,ah,aj,Act.eval,Region.binds] at hD
  simp [go_sem,gd,Oper.wp,hD]
  exact ak.mk trivial (C3.skip (by rfl) (by rfl) (by rfl) hC) (ah.mk _ _)
 simp only [List.nil_append,List.cons_append]
 refine aH.some (fun _ _=>True) (fun _ _ _ _ _=>trivial) ?_ ?_
 ·intro c A' w' hok hC hO hD
  obtain ⟨rfl,rfl⟩:=C3.w3 hok hC
  simp [au,ah,aj,Act.eval,Region.binds] at hD
  simp [go_sem,gd,Oper.wp,hD,k4,f4]
  exact ak.mF (v:=undef) trivial (C3.three (by rfl) (by rfl) (by rfl)) trivial
 simp only [List.nil_append,List.cons_append]
 refine aH.done ?_
 intro wy GA
 simp only [List.drop_zero]
 intro v0 h0 v1 h1 v2 h2 v3 h3 v4 h4 v5 h5 v6 h6 v7 h7 v8 h8 v9 h9 v10 h10 v11 h11
 clear h0 h1 h2 h3 h4 h5 h6 h7 h8 h9 h10 h11
 refine bM.nil ?_
 refine dQ rfl ?_
 have CK:wy=w4.setCell _ _:=GA
 rw [← CK] at HAD
 clear GA CK k4 f4 K4 K2 hd1 hd2
 go_simp
 go_wp2_with fail
 go_ret
 exact ⟨aS HR'.out.symm,(Kw.of_below HY.out.1).trans (jF.refl _ _) HAD.out.2.1,_,_,_,_,(jF.refl _ _).trans HAD.out.2.2 HY.out.1.size,HAD.out.1,fun _=>⟨rfl,rfl⟩⟩
end Go.Proofs.YtnknfoibmgphnaaDoor
end
section
set_option linter.unusedSimpArgs false
set_option linter.unusedVariables false
namespace Go.Proofs.YtnknfoibmgphnaaDoor
open Go.RowKit
open Md
set_option maxHeartbeats 4000000 in
set_option maxRecDepth 100000 in
theorem Mv (L:nu) (p:Pr) (w:World) (aC aF:Option Addr) (aA av:Nat) (i:Int) (A:List Fr) (fs gs:List ByteArray) (v vs ve:Value) (hI:jc w L p aC aF aA av i A fs gs v vs ve) (h:eH) (b e:aR) (s:Sl) (hin:nQ w L.B0 h b e s) (hi:aX i) (hA:A.length≤maxLen) (hfs:fs.length≤1000000000000) (hgs:gs.length≤1000000000000) (hop:h.op=14):
 Calls Tryd.prog 39 #[.pointer (some ⟨L.bc,0,none⟩),aY h b e s] w (lu w L p aC aF aA av i A fs gs v vs ve fs (gs++[h.nm]) (fP (if (fP (bR (conv (mean p i h.nm)) 6 6) (nest (aU (bF A) 7 7 ⟨#[]⟩ || aU (bF A) 3 3 ⟨#[]⟩)) == 0) && kr gs h.nm.toList then 8 else fP (bR (conv (mean p i h.nm)) 6 6) (nest (aU (bF A) 7 7 ⟨#[]⟩ || aU (bF A) 3 3 ⟨#[]⟩))) (iE p i h.dU h.xn h.dV h.bq))):=by
 obtain ⟨aJ,aI,rfl,hat⟩:=hI.form
 obtain ⟨bV,bf,rfl,Ik⟩:=hI.Gi
 obtain ⟨bW,aZ,rfl,IW⟩:=hI.Gy
 have hp:=hI.dat.use hI.b0
 have hh:=hI.holds
 have har:(bF A).len≤maxLen:=by rw [mU]; exact hA
 have Ip:=Lib.hid hin
 replace hin:=hin.use hI.b0
 have HI:=Lib.hid hI
 have vO:=Lib.hid Ik
 have iR:=Lib.hid IW
 generalize hres:(fP (if (fP (bR (conv (mean p i h.nm)) 6 6) (nest (aU (bF A) 7 7 ⟨#[]⟩ || aU (bF A) 3 3 ⟨#[]⟩)) == 0) && kr gs h.nm.toList then 8 else fP (bR (conv (mean p i h.nm)) 6 6) (nest (aU (bF A) 7 7 ⟨#[]⟩ || aU (bF A) 3 3 ⟨#[]⟩))) (iE p i h.dU h.xn h.dV h.bq))=res
 have HR:Hid (res=(fP (if (fP (bR (conv (mean p i h.nm)) 6 6) (nest (aU (bF A) 7 7 ⟨#[]⟩ || aU (bF A) 3 3 ⟨#[]⟩)) == 0) && kr gs h.nm.toList then 8 else fP (bR (conv (mean p i h.nm)) 6 6) (nest (aU (bF A) 7 7 ⟨#[]⟩ || aU (bF A) 3 3 ⟨#[]⟩))) (iE p i h.dU h.xn h.dV h.bq))):=Lib.hid (by rw [← hres])
 have iG:=Lib.hid hop
 have OW:=Lib.hid hin.1.2.2.1
 have F6:=Lib.hid hfs
 have FJ:=Lib.hid hgs
 clear hres hop hI Ik IW hA hfs hgs
 have HH:=Lib.hid (show Sit w w _ from ⟨Below.refl _ _,hh⟩)
 have jS:=Lib.hid hin
 have dG:=Lib.hid hat
 have dw:=Lib.hid har
 have HP:=Lib.hid hp
 unfold aY
 clear hh hin hat har hp
 go_enter Tryd.func39,Tryd.ntmps39
 go_upto_region 1 with fail
 generalize hW:World.alloc w _=W
 generalize Value.agg #[_,_,_,_,_,_,_,_,_,_,_]=a0
 have HX:Hid (Sit w W (iT w.heap.size h b e s (kE L.bc p aC aF aA av i aJ (bF A).len aI bV fs.length bf bW gs.length aZ))):=Lib.hid (by rw [← hW]; exact HH.out.gZ rfl _ _ _ _ _ _ _ _ _ _ _ _)
 clear hW HH
 have K0: ∀w',Below W.heap.size W w'→w'.cell? ⟨L.bc,0,none⟩=some (.slice aC p.ds.length aA):=fun w' hb=>(HX.out.next hb).2.2.2.2.2.2.2.2.2.2.2.2.1.2
 have K1: ∀w',Below W.heap.size W w'→w'.cell? ⟨L.bc,1,none⟩=some (.slice aF p.ts.length av):=fun w' hb=>(HX.out.next hb).2.2.2.2.2.2.2.2.2.2.2.2.2.1.2
 have K2: ∀w',Below W.heap.size W w'→w'.cell? ⟨L.bc,2,none⟩=some (.int .i64 i):=fun w' hb=>(HX.out.next hb).2.2.2.2.2.2.2.2.2.2.2.2.2.2.1.2
 have HD1:Below W.heap.size W (W.drewN 1):=below_drewN (Below.refl _ _) 1
 refine cu (by kernel_rfl) rfl ?_
 generalize W.drewN 1=W1 at *
 refine bG 0 11 [8,9] [[],[0],[0,1],[0,1,2],[],[4],[4,5],[4,5,6],[],[0,1,2,3,8],[0,1,2,3,4,5,6,7,8,9]] [[none,some false],[none,some false],[none,some false],[none,some false],[none,none],[none,none],[none,none],[none,none],[some false,some false],[some true,some false],[some true,some true]] (AC W1 (.cells #[.slice none 0 0,.slice none 0 0] 26) (.cells #[.slice aC p.ds.length aA,.slice aF p.ts.length av] 26)) (fun _ _=>True) [15,16,17,18,19,20,21,22,5,6] rfl rfl (by rfl) (by kernel_rfl) (by kernel_rfl) (by kernel_rfl) (by kernel_rfl) (by kernel_rfl) (by rfl) (fun _=>trivial) (by rfl) rfl ?_
 simp only [List.take_succ_cons,List.take_zero,List.drop_zero,List.drop_succ_cons,gP,List.map_cons,List.map_nil]
 apply aH.step
 case aB=>
  intro c A w' hok hC hO hD
  have e0:=hO 0 (by rfl)
  simp [Act.eval] at e0
  simp [au,ah,aj,Act.eval,Region.binds] at hD
  simp [go_sem,gd,Oper.wp,hD,e0]
  exact ak.mk trivial (AC.skip (by rfl) (by rfl) hC) (ah.mk _ _)
 apply aH.step
 case aB=>
  intro c A w' hok hC hO hD
  simp [au,ah,aj,Act.eval,Region.binds] at hD
  simp [go_sem,gd,Oper.wp,hD]
  exact ak.mk trivial (AC.skip (by rfl) (by rfl) hC) (ah.mk _ _)
 apply aH.step
 case aB=>
  intro c A w' hok hC hO hD
  simp [au,ah,aj,Act.eval,Region.binds] at hD
  simp [go_sem,gd,Oper.wp,hD]
  exact ak.mk trivial (AC.skip (by rfl) (by rfl) hC) (ah.mk _ _)
 apply aH.step
 case aB=>
  intro c A w' hok hC hO hD
  simp [au,ah,aj,Act.eval,Region.binds] at hD
  simp [go_sem,gd,Oper.wp,hD,K0,K1,AC.below HD1 hC]
  exact ak.mk trivial (AC.skip (by rfl) (by rfl) hC) (ah.mk _ _)
 apply aH.step
 case aB=>
  intro c A w' hok hC hO hD
  have e0:=hO 0 (by rfl)
  simp [Act.eval] at e0
  simp [au,ah,aj,Act.eval,Region.binds] at hD
  simp [go_sem,gd,Oper.wp,hD,e0]
  exact ak.mk trivial (AC.skip (by rfl) (by rfl) hC) (ah.mk _ _)
 simp only [List.nil_append,List.cons_append]
 apply aH.step
 case aB=>
  intro c A w' hok hC hO hD
  simp [au,ah,aj,Act.eval,Region.binds] at hD
  simp [go_sem,gd,Oper.wp,hD]
  exact ak.mk trivial (AC.skip (by rfl) (by rfl) hC) (ah.mk _ _)
 apply aH.step
 case aB=>
  intro c A w' hok hC hO hD
  simp [au,ah,aj,Act.eval,Region.binds] at hD
  simp [go_sem,gd,Oper.wp,hD]
  exact ak.mk trivial (AC.skip (by rfl) (by rfl) hC) (ah.mk _ _)
 apply aH.step
 case aB=>
  intro c A w' hok hC hO hD
  simp [au,ah,aj,Act.eval,Region.binds] at hD
  simp [go_sem,gd,Oper.wp,hD,K2,AC.below HD1 hC]
  exact ak.mk trivial (AC.skip (by rfl) (by rfl) hC) (ah.mk _ _)
 simp only [List.nil_append,List.cons_append]
 apply aH.step
 case aB=>
  intro c A w' hok hC hO hD
  obtain ⟨x,y,rfl⟩:=hC.bits
  obtain ⟨rfl,rfl,-⟩:=hok
  have hw:w'=W1:=hC
  subst hw
  simp [go_sem,gd,Oper.wp]
  exact ak.mk trivial (AC.lay (by rfl) (by rfl)) (ah.mk _ _)
 refine aH.some (fun _ _=>True) (fun _ _ _ _ _=>trivial) ?_ ?_
 ·intro c A w' hok hC hO hD
  obtain ⟨x,y,rfl⟩:=hC.bits
  obtain ⟨rfl,rfl,-⟩:=hok
  have hw:w'=W1.alloc _:=hC
  subst hw
  simp [au,ah,aj,Act.eval,Region.binds] at hD
  simp [go_sem,gd,Oper.wp,hD]
  exact ak.mF (v:=undef) trivial (AC.fill (by rfl) (by rfl)) trivial
 simp only [List.nil_append,List.cons_append]
 apply aH.step
 case aB=>
  intro c A w' hok hC hO hD
  simp [au,ah,aj,Act.eval,Region.binds] at hD
  simp [go_sem,gd,Oper.wp,hD]
  exact ak.mk trivial (AC.skip (by rfl) (by rfl) hC) (ah.mk _ _)
 simp only [List.nil_append,List.cons_append]
 refine aH.done ?_
 intro wz bK
 simp only [List.drop_zero]
 intro v0 h0 v1 h1 v2 h2 v3 h3 v4 h4 v5 h5 v6 h6 v7 h7 v8 h8 v9 h9 v10 h10
 have h8':v8=_:=h8
 have jG:v10=_:=h10
 subst h8' jG
 clear h0 h1 h2 h3 h4 h5 h6 h7 h8 h9 h10
 refine bM.nil ?_
 refine dQ rfl ?_
 have gN:wz=W1.alloc _:=bK
 generalize hn1:W1.heap.size=n1 at *
 have HY:=Lib.hid ((HX.out.next HD1).kC hn1 (.slice aC p.ds.length aA) (.slice aF p.ts.length av) 26)
 rw [← gN] at HY
 have QF:Hid (w.heap.size≤n1):=Lib.hid (by rw [← hn1]; exact (HX.out.next HD1).1.size)
 clear bK gN HX K0 K1 K2 HD1 hn1
 go_simp
 obtain ⟨-,⟨-,c0⟩,⟨-,c1⟩,⟨-,c2⟩,⟨-,c3⟩,⟨-,c4⟩,⟨-,c5⟩,⟨-,c6⟩,⟨-,c7⟩,⟨-,c8⟩,⟨-,c9⟩,⟨-,c10⟩,⟨-,c11⟩,⟨-,c12⟩,⟨-,c13⟩,⟨-,c14⟩,⟨-,c15⟩,⟨-,c16⟩,⟨-,c17⟩,⟨-,c18⟩,-⟩:=HY.out
 go_wp2_with fail
 refine (aQ p _ aC aF aA av i aJ aI L.bc bV fs.length bf bW gs.length aZ (bF A) 7 7 ⟨#[]⟩ dw.out (dG.out.same HY.out.1) (bQ HY.out)).mono ?_
 rintro e' W ⟨rfl,hb⟩
 replace HY:=Lib.hid (HY.out.next hb)
 clear hb c0 c1 c2 c3 c4 c5 c6 c7 c8 c9 c10 c11 c12 c13 c14 c15 c16 c17 c18
 obtain ⟨-,⟨-,c0⟩,⟨-,c1⟩,⟨-,c2⟩,⟨-,c3⟩,⟨-,c4⟩,⟨-,c5⟩,⟨-,c6⟩,⟨-,c7⟩,⟨-,c8⟩,⟨-,c9⟩,⟨-,c10⟩,⟨-,c11⟩,⟨-,c12⟩,⟨-,c13⟩,⟨-,c14⟩,⟨-,c15⟩,⟨-,c16⟩,⟨-,c17⟩,⟨-,c18⟩,-⟩:=HY.out
 go_wp2_with fail
 refine (aQ p _ aC aF aA av i aJ aI L.bc bV fs.length bf bW gs.length aZ (bF A) 8 8 ⟨#[]⟩ dw.out (dG.out.same HY.out.1) (bQ HY.out)).mono ?_
 rintro e' W ⟨rfl,hb⟩
 replace HY:=Lib.hid (HY.out.next hb)
 clear hb c0 c1 c2 c3 c4 c5 c6 c7 c8 c9 c10 c11 c12 c13 c14 c15 c16 c17 c18
 obtain ⟨-,⟨-,c0⟩,⟨-,c1⟩,⟨-,c2⟩,⟨-,c3⟩,⟨-,c4⟩,⟨-,c5⟩,⟨-,c6⟩,⟨-,c7⟩,⟨-,c8⟩,⟨-,c9⟩,⟨-,c10⟩,⟨-,c11⟩,⟨-,c12⟩,⟨-,c13⟩,⟨-,c14⟩,⟨-,c15⟩,⟨-,c16⟩,⟨-,c17⟩,⟨-,c18⟩,-⟩:=HY.out
 go_wp2_with fail
 refine (aQ p _ aC aF aA av i aJ aI L.bc bV fs.length bf bW gs.length aZ (bF A) 3 3 ⟨#[]⟩ dw.out (dG.out.same HY.out.1) (bQ HY.out)).mono ?_
 rintro e' W ⟨rfl,hb⟩
 replace HY:=Lib.hid (HY.out.next hb)
 clear hb c0 c1 c2 c3 c4 c5 c6 c7 c8 c9 c10 c11 c12 c13 c14 c15 c16 c17 c18
 obtain ⟨-,⟨-,c0⟩,⟨-,c1⟩,⟨-,c2⟩,⟨-,c3⟩,⟨-,c4⟩,⟨-,c5⟩,⟨-,c6⟩,⟨-,c7⟩,⟨-,c8⟩,⟨-,c9⟩,⟨-,c10⟩,⟨-,c11⟩,⟨-,c12⟩,⟨-,c13⟩,⟨-,c14⟩,⟨-,c15⟩,⟨-,c16⟩,⟨-,c17⟩,⟨-,c18⟩,-⟩:=HY.out
 generalize htx:aU (bF A) 7 7 ⟨#[]⟩=tx at *
 generalize hat':aU (bF A) 8 8 ⟨#[]⟩=nK at *
 generalize hlo:aU (bF A) 3 3 ⟨#[]⟩=lop at *
 clear htx hat' hlo
 have hop:=iG.out
 have g1:(h.op == 1)=false:=by rw [hop]; rfl
 have g2:(h.op == 2)=false:=by rw [hop]; rfl
 have g3:(h.op == 3)=false:=by rw [hop]; rfl
 have g4:(h.op == 4)=false:=by rw [hop]; rfl
 have g5:(h.op == 5)=false:=by rw [hop]; rfl
 have g6:(h.op == 6)=false:=by rw [hop]; rfl
 have g7:(h.op == 7)=false:=by rw [hop]; rfl
 have g8:(h.op == 8)=false:=by rw [hop]; rfl
 have g9:(h.op == 9)=false:=by rw [hop]; rfl
 have g10:(h.op == 10)=false:=by rw [hop]; rfl
 have g11:(h.op == 11)=false:=by rw [hop]; rfl
 have g12:(h.op == 12)=false:=by rw [hop]; rfl
 have g13:(h.op == 13)=false:=by rw [hop]; rfl
 have g14:(h.op == 14)=true:=by rw [hop]; rfl
 have g15:(h.op == 15)=false:=by rw [hop]; rfl
 clear hop
 go_upto_region 44 with fail
 go_cut [14] (fun s' W3=>s'= .int .i64 (fP (bR (conv (mean p i h.nm)) 6 6) (nest (tx || lop)))∧Sit w W3 ((n1,0,.slice aC p.ds.length aA) ::(n1,1,.slice aF p.ts.length av) ::iT w.heap.size h b e s (kE L.bc p aC aF aA av i aJ (bF A).len aI bV fs.length bf bW gs.length aZ)))
 case first=>
  as_aux_lemma=>
   cases tx
   ·cases lop
    ·go_wp2_with fail
     refine (fM p i h.nm 6 6 _ aC aF aA av hi (HP.out.same HY.out.1)).mono ?_
     rintro e' W ⟨rfl,hb⟩
     replace HY:=Lib.hid (HY.out.next hb)
     clear hb c0 c1 c2 c3 c4 c5 c6 c7 c8 c9 c10 c11 c12 c13 c14 c15 c16 c17 c18
     obtain ⟨-,⟨-,c0⟩,⟨-,c1⟩,⟨-,c2⟩,⟨-,c3⟩,⟨-,c4⟩,⟨-,c5⟩,⟨-,c6⟩,⟨-,c7⟩,⟨-,c8⟩,⟨-,c9⟩,⟨-,c10⟩,⟨-,c11⟩,⟨-,c12⟩,⟨-,c13⟩,⟨-,c14⟩,⟨-,c15⟩,⟨-,c16⟩,⟨-,c17⟩,⟨-,c18⟩,-⟩:=HY.out
     go_wp2_with fail
     refine (dO _ _).mono ?_
     rintro e' W' ⟨rfl,rfl⟩
     go_wp2_with fail
     refine (gU _ _ _).mono ?_
     rintro e' W' ⟨rfl,rfl⟩
     go_wp2_with fail
     go_meet
     exact ⟨rfl,HY.out⟩
    ·go_wp2_with fail
     refine (fM p i h.nm 6 6 _ aC aF aA av hi (HP.out.same HY.out.1)).mono ?_
     rintro e' W ⟨rfl,hb⟩
     replace HY:=Lib.hid (HY.out.next hb)
     clear hb c0 c1 c2 c3 c4 c5 c6 c7 c8 c9 c10 c11 c12 c13 c14 c15 c16 c17 c18
     obtain ⟨-,⟨-,c0⟩,⟨-,c1⟩,⟨-,c2⟩,⟨-,c3⟩,⟨-,c4⟩,⟨-,c5⟩,⟨-,c6⟩,⟨-,c7⟩,⟨-,c8⟩,⟨-,c9⟩,⟨-,c10⟩,⟨-,c11⟩,⟨-,c12⟩,⟨-,c13⟩,⟨-,c14⟩,⟨-,c15⟩,⟨-,c16⟩,⟨-,c17⟩,⟨-,c18⟩,-⟩:=HY.out
     go_wp2_with fail
     refine (dO _ _).mono ?_
     rintro e' W' ⟨rfl,rfl⟩
     go_wp2_with fail
     refine (gU _ _ _).mono ?_
     rintro e' W' ⟨rfl,rfl⟩
     go_wp2_with fail
     go_meet
     exact ⟨rfl,HY.out⟩
   ·go_wp2_with fail
    refine (fM p i h.nm 6 6 _ aC aF aA av hi (HP.out.same HY.out.1)).mono ?_
    rintro e' W ⟨rfl,hb⟩
    replace HY:=Lib.hid (HY.out.next hb)
    clear hb c0 c1 c2 c3 c4 c5 c6 c7 c8 c9 c10 c11 c12 c13 c14 c15 c16 c17 c18
    obtain ⟨-,⟨-,c0⟩,⟨-,c1⟩,⟨-,c2⟩,⟨-,c3⟩,⟨-,c4⟩,⟨-,c5⟩,⟨-,c6⟩,⟨-,c7⟩,⟨-,c8⟩,⟨-,c9⟩,⟨-,c10⟩,⟨-,c11⟩,⟨-,c12⟩,⟨-,c13⟩,⟨-,c14⟩,⟨-,c15⟩,⟨-,c16⟩,⟨-,c17⟩,⟨-,c18⟩,-⟩:=HY.out
    go_wp2_with fail
    refine (dO _ _).mono ?_
    rintro e' W' ⟨rfl,rfl⟩
    go_wp2_with fail
    refine (gU _ _ _).mono ?_
    rintro e' W' ⟨rfl,rfl⟩
    go_wp2_with fail
    go_meet
    exact ⟨rfl,HY.out⟩
 obtain ⟨rfl,hsit⟩:=hcut
 replace HY:=Lib.hid hsit
 clear hsit c0 c1 c2 c3 c4 c5 c6 c7 c8 c9 c10 c11 c12 c13 c14 c15 c16 c17 c18
 obtain ⟨W,rfl⟩: ∃W:World,W=wc:=⟨_,rfl⟩
 generalize fP (bR (conv (mean p i h.nm)) 6 6) (nest (tx || lop))=e1 at *
 obtain ⟨-,⟨-,c0⟩,⟨-,c1⟩,⟨-,c2⟩,⟨-,c3⟩,⟨-,c4⟩,⟨-,c5⟩,⟨-,c6⟩,⟨-,c7⟩,⟨-,c8⟩,⟨-,c9⟩,⟨-,c10⟩,⟨-,c11⟩,⟨-,c12⟩,⟨-,c13⟩,⟨-,c14⟩,⟨-,c15⟩,⟨-,c16⟩,⟨-,c17⟩,⟨-,c18⟩,-⟩:=HY.out
 have Ar:=Lib.hid (xE gs h.nm)
 go_upto_region 45 with fail
 go_cut [253] (fun s' W3=>s'= .bool ((e1 == 0) && kr gs h.nm.toList)∧Sit w W3 ((n1,0,.slice aC p.ds.length aA) ::(n1,1,.slice aF p.ts.length av) ::iT w.heap.size h b e s (kE L.bc p aC aF aA av i aJ (bF A).len aI bV fs.length bf bW gs.length aZ)))
 case first=>
  as_aux_lemma=>
   obtain ⟨T,F,qz,hst,hF,hnext⟩:=calm W
   have HF:=Lib.hid hF
   have bS:=Lib.hid hnext
   clear hnext hF
   have d0:=fun x=>(HY.out.next (HF.out x)).2.1.2
   have d1:=fun x=>(HY.out.next (HF.out x)).2.2.1.2
   have d2:=fun x=>(HY.out.next (HF.out x)).2.2.2.1.2
   have d3:=fun x=>(HY.out.next (HF.out x)).2.2.2.2.1.2
   have d4:=fun x=>(HY.out.next (HF.out x)).2.2.2.2.2.1.2
   have d5:=fun x=>(HY.out.next (HF.out x)).2.2.2.2.2.2.1.2
   have d6:=fun x=>(HY.out.next (HF.out x)).2.2.2.2.2.2.2.1.2
   have d7:=fun x=>(HY.out.next (HF.out x)).2.2.2.2.2.2.2.2.1.2
   have d8:=fun x=>(HY.out.next (HF.out x)).2.2.2.2.2.2.2.2.2.1.2
   have d9:=fun x=>(HY.out.next (HF.out x)).2.2.2.2.2.2.2.2.2.2.1.2
   have nk:=fun x=>(HY.out.next (HF.out x)).2.2.2.2.2.2.2.2.2.2.2.1.2
   have mQ:=fun x=>(HY.out.next (HF.out x)).2.2.2.2.2.2.2.2.2.2.2.2.1.2
   have qj:=fun x=>(HY.out.next (HF.out x)).2.2.2.2.2.2.2.2.2.2.2.2.2.1.2
   have qK:=fun x=>(HY.out.next (HF.out x)).2.2.2.2.2.2.2.2.2.2.2.2.2.2.1.2
   have nL:=fun x=>(HY.out.next (HF.out x)).2.2.2.2.2.2.2.2.2.2.2.2.2.2.2.1.2
   have qI:=fun x=>(HY.out.next (HF.out x)).2.2.2.2.2.2.2.2.2.2.2.2.2.2.2.2.1.2
   have qg:=fun x=>(HY.out.next (HF.out x)).2.2.2.2.2.2.2.2.2.2.2.2.2.2.2.2.2.1.2
   have qH:=fun x=>(HY.out.next (HF.out x)).2.2.2.2.2.2.2.2.2.2.2.2.2.2.2.2.2.2.1.2
   have pJ:=fun x=>(HY.out.next (HF.out x)).2.2.2.2.2.2.2.2.2.2.2.2.2.2.2.2.2.2.2.1.2
   clear c0 c1 c2 c3 c4 c5 c6 c7 c8 c9 c10 c11 c12 c13 c14 c15 c16 c17 c18
   cases he1:(e1 == 0)
   ·clear Ar
    refine gF F (by kernel_rfl) (by kernel_rfl) hst ?_
    repeat (any_goals (first | go_big_quiet_step ((fail)) | (refine wpQuiet_step (fun K hK=> ?_); go_simp; first | (refine hK _ ?_; clear hK K) | (split <;> first | (refine hK _ ?_; clear hK K) | (apply Exists.intro; refine ⟨fun _=> ?_,hK _ ?_⟩; ((fail)); clear hK K)))))
    all_goals (refine wpQuiet_nil ?_; rintro _ ⟨x,rfl⟩)
    replace HY:=Lib.hid (HY.out.next (HF.out x))
    clear d0 d1 d2 d3 d4 d5 d6 d7 d8 d9 nk mQ qj qK nL qI qg qH pJ HF bS hst
    generalize F x=W2 at *
    go_wp2_with fail
    go_meet
    exact ⟨by first | (rw [he1]; rfl) | simp [he1],HY.out⟩
   ·obtain rfl:e1=0:=by simpa using he1
    rcases Ar.out with ⟨xI,nJ⟩ | ⟨jj,xI,nJ⟩
    ·have yj:=Lib.hid xI
     have IX:=Lib.hid nJ
     clear Ar xI nJ he1
     refine gF F (by kernel_rfl) (by kernel_rfl) hst ?_
     repeat (any_goals (first | go_big_quiet_step ((first | (go_at_call 38; refine (kN gs h.nm _ bW aZ (by have:=FJ.out; unfold maxLen; omega) ((iR.out.same HY.out.1).same (HF.out _))).mono ?_; rintro e w' ⟨rfl,rfl⟩; rw [yj.out]; exact ⟨rfl,bS.out _ _ (Below.refl _ _)⟩))) | (refine wpQuiet_step (fun K hK=> ?_); go_simp; first | (refine hK _ ?_; clear hK K) | (split <;> first | (refine hK _ ?_; clear hK K) | (apply Exists.intro; refine ⟨fun _=> ?_,hK _ ?_⟩; ((first | (go_at_call 38; refine (kN gs h.nm _ bW aZ (by have:=FJ.out; unfold maxLen; omega) ((iR.out.same HY.out.1).same (HF.out _))).mono ?_; rintro e w' ⟨rfl,rfl⟩; rw [yj.out]; exact ⟨rfl,bS.out _ _ (Below.refl _ _)⟩))); clear hK K)))))
     all_goals (refine wpQuiet_nil ?_; rintro _ ⟨x,rfl⟩)
     replace HY:=Lib.hid (HY.out.next (HF.out x))
     clear d0 d1 d2 d3 d4 d5 d6 d7 d8 d9 nk mQ qj qK nL qI qg qH pJ HF bS hst
     generalize F x=W2 at *
     go_wp2_with fail
     go_meet
     exact ⟨by first | (rw [IX.out]; rfl) | simp [IX.out],HY.out⟩
    ·have yj:=Lib.hid xI
     have IX:=Lib.hid nJ
     have hj0:(0:Int)≤(jj:Int):=by omega
     clear Ar xI nJ he1
     refine gF F (by kernel_rfl) (by kernel_rfl) hst ?_
     repeat (any_goals (first | go_big_quiet_step ((first | (go_at_call 38; refine (kN gs h.nm _ bW aZ (by have:=FJ.out; unfold maxLen; omega) ((iR.out.same HY.out.1).same (HF.out _))).mono ?_; rintro e w' ⟨rfl,rfl⟩; rw [yj.out]; exact ⟨rfl,bS.out _ _ (Below.refl _ _)⟩))) | (refine wpQuiet_step (fun K hK=> ?_); go_simp; first | (refine hK _ ?_; clear hK K) | (split <;> first | (refine hK _ ?_; clear hK K) | (apply Exists.intro; refine ⟨fun _=> ?_,hK _ ?_⟩; ((first | (go_at_call 38; refine (kN gs h.nm _ bW aZ (by have:=FJ.out; unfold maxLen; omega) ((iR.out.same HY.out.1).same (HF.out _))).mono ?_; rintro e w' ⟨rfl,rfl⟩; rw [yj.out]; exact ⟨rfl,bS.out _ _ (Below.refl _ _)⟩))); clear hK K)))))
     all_goals (refine wpQuiet_nil ?_; rintro _ ⟨x,rfl⟩)
     replace HY:=Lib.hid (HY.out.next (HF.out x))
     clear d0 d1 d2 d3 d4 d5 d6 d7 d8 d9 nk mQ qj qK nL qI qg qH pJ HF bS hst
     generalize F x=W2 at *
     go_wp2_with fail
     go_meet
     exact ⟨by first | (rw [IX.out]; rfl) | simp [IX.out],HY.out⟩
 obtain ⟨rfl,hsit⟩:=hcut
 replace HY:=Lib.hid hsit
 clear hsit c0 c1 c2 c3 c4 c5 c6 c7 c8 c9 c10 c11 c12 c13 c14 c15 c16 c17 c18 Ar
 obtain ⟨W2,rfl⟩: ∃W:World,W=wc:=⟨_,rfl⟩
 generalize ((e1 == 0) && kr gs h.nm.toList)=tb at *
 go_upto_if 253 with fail
 go_cut [14] (fun s' W3=>s'= .int .i64 (if tb then 8 else e1)∧W2=W3)
 case first=>
  cases tb
  all_goals go_wp2_with fail
  all_goals go_meet
  all_goals exact ⟨rfl,rfl⟩
 obtain ⟨rfl,rfl⟩:=hcut
 generalize (if tb=true then 8 else e1)=e2 at *
 have hI2:=HI.out.below HY.out.1
 have HI2:=Lib.hid hI2
 have K4: ∀w',Below W2.heap.size W2 w'→w'.cell? ⟨L.bc,5,none⟩=some (.slice bW gs.length aZ):=fun w' hb=>(dM (HI2.out.below hb).blk (j:=5) rfl).2
 have K2: ∀w',Below W2.heap.size W2 w'→w'.cell? ⟨w.heap.size,2,none⟩=some (.string h.nm):=fun w' hb=>(HY.out.next hb).2.2.2.2.2.1.2
 have hd1:Below W2.heap.size W2 (W2.drewN 1):=below_drewN (Below.refl _ _) 1
 have hgs:=FJ.out
 clear hI2
 go_upto_region 47 with fail
 refine cu (by kernel_rfl) rfl ?_
 generalize W2.drewN 1=W5 at *
 have hd2:Below W2.heap.size W2 (W5.alloc (.cells #[.string h.nm] 9)):=hd1.trans ((ay _ _).mono hd1.size)
 obtain ⟨i0,hi0,hz0,hz1,hz2⟩:=EC
 obtain ⟨gg,cap,w4,hrun,nI,lS,sV,vX⟩:=run_append_lies (P:=Tryd.prog) (W5.alloc (.cells #[.string h.nm] 9)) 32 32 L.B1 9 i0 _ 1 16 Tryd.underlying32 hi0 hz0 hz1 hz2 rfl (by omega) (.slice bW gs.length aZ) gs.length (vw gs) (HI2.out.below hd2).re ⟨W5.heap.size,0,none⟩ 1 1 [.string h.nm] rfl (World.news_of_block (cs:= #[.string h.nm]) (heap_alloc_new W5 _)) (by simp [Value.oneCell']) (by omega) (by unfold maxLen; omega) (by omega) (HI2.out.below hd2).sz _ rfl
 have Jr:=Lib.hid hrun
 have HAD:=Lib.hid (HI2.out.Tx OW.out hd2 nI lS sV)
 have gV:Hid (w4.heap[L.bc]? =some (.cells (KZ p aC aF aA av i (.slice aJ A.length aI) (.slice bV fs.length bf) (.slice bW gs.length aZ)) 60 (0,0))):=Lib.hid ((lS.block _ (Array.getElem?_eq_some_iff.1 (HI2.out.below hd2).blk).1 (fun e'=>HI2.out.Bl (u:= .slice bW gs.length aZ) (by simp) e'.symm)).trans (HI2.out.below hd2).blk)
 have k4:w4.cell? ⟨L.bc,5,none⟩=some (.slice bW gs.length aZ):=(dM gV.out (j:=5) rfl).2
 have f4:w4.frozen? ⟨L.bc,5,none⟩=false:=dH gV.out
 clear hrun nI lS sV vX hi0 hz0 hz1 hz2 gV
 refine bG 0 12 [7,8,11] [[],[],[1],[1,2],[1,2,3],[],[5],[5,6],[1,2,3,4,5,6,7],[0,1,2,3,4,5,6,7,8],[0,1,2,3,4,5,6,7,8,9],[0,1,2,3,4,5,6,7,8,9,10]] [[none,none,some false],[none,some false,some false],[none,some false,some false],[none,some false,some false],[none,some false,some false],[some false,some false,some false],[some false,some false,some false],[some false,some false,some false],[some true,some false,some false],[some true,some true,some false],[some true,some true,some false],[some true,some true,some false]] (C3 W5 (W5.alloc (.cells #[.string h.nm] 9)) w4 (w4.setCell ⟨L.bc,5,none⟩ (.slice (some ⟨gg,0,none⟩) (gs.length + 1) cap))) (fun _ _=>True) [254,255,256,257,258,259,260,261,262,263,264] rfl rfl (by rfl) (by kernel_rfl) (by kernel_rfl) (by kernel_rfl) (by kernel_rfl) (by kernel_rfl) (by rfl) (fun _=>trivial) (by rfl) rfl ?_
 simp only [List.take_succ_cons,List.take_zero,List.drop_zero,List.drop_succ_cons,gP,List.map_cons,List.map_nil]
 apply aH.step
 case aB=>
  intro c A w' hok hC hO hD
  have e0:=hO 0 (by rfl)
  simp [Act.eval] at e0
  simp [au,ah,aj,Act.eval,Region.binds] at hD
  simp [go_sem,gd,Oper.wp,hD,e0]
  exact ak.mk trivial (C3.skip (by rfl) (by rfl) (by rfl) hC) (ah.mk _ _)
 apply aH.step
 case aB=>
  intro c A w' hok hC hO hD
  have e0:=hO 0 (by rfl)
  simp [Act.eval] at e0
  simp [au,ah,aj,Act.eval,Region.binds] at hD
  simp [go_sem,gd,Oper.wp,hD,e0]
  exact ak.mk trivial (C3.skip (by rfl) (by rfl) (by rfl) hC) (ah.mk _ _)
 apply aH.step
 case aB=>
  intro c A w' hok hC hO hD
  simp [au,ah,aj,Act.eval,Region.binds] at hD
  simp [go_sem,gd,Oper.wp,hD]
  exact ak.mk trivial (C3.skip (by rfl) (by rfl) (by rfl) hC) (ah.mk _ _)
 apply aH.step
 case aB=>
  intro c A w' hok hC hO hD
  simp [au,ah,aj,Act.eval,Region.binds] at hD
  simp [go_sem,gd,Oper.wp,hD]
  exact ak.mk trivial (C3.skip (by rfl) (by rfl) (by rfl) hC) (ah.mk _ _)
 simp only [List.nil_append,List.cons_append]
 apply aH.step
 case aB=>
  intro c A w' hok hC hO hD
  simp [au,ah,aj,Act.eval,Region.binds] at hD
  simp [go_sem,gd,Oper.wp,hD,K4,C3.low hd1 hd2 hok hC]
  exact ak.mk trivial (C3.skip (by rfl) (by rfl) (by rfl) hC) (ah.mk _ _)
 apply aH.step
 case aB=>
  intro c A w' hok hC hO hD
  have e3:=hO 3 (by rfl)
  simp [Act.eval] at e3
  simp [au,ah,aj,Act.eval,Region.binds] at hD
  simp [go_sem,gd,Oper.wp,hD,e3]
  exact ak.mk trivial (C3.skip (by rfl) (by rfl) (by rfl) hC) (ah.mk _ _)
 apply aH.step
 case aB=>
  intro c A w' hok hC hO hD
  simp [au,ah,aj,Act.eval,Region.binds] at hD
  simp [go_sem,gd,Oper.wp,hD,K2,C3.low hd1 hd2 hok hC]
  exact ak.mk trivial (C3.skip (by rfl) (by rfl) (by rfl) hC) (ah.mk _ _)
 simp only [List.nil_append,List.cons_append]
 apply aH.step
 case aB=>
  intro c A' w' hok hC hO hD
  obtain ⟨rfl,rfl⟩:=C3.w1 hok hC
  simp [au,ah,aj,Act.eval,Region.binds] at hD
  simp [go_sem,gd,Oper.wp,hD]
  exact ak.mk trivial (C3.one (by rfl) (by rfl) (by rfl)) (ah.mk _ _)
 apply aH.step
 case aB=>
  intro c A' w' hok hC hO hD
  obtain ⟨rfl,rfl⟩:=C3.w2 hok hC
  simp [au,ah,aj,Act.eval,Region.binds] at hD
  simp only [gd,if_true]
  refine wp_append_run _ _ _ (.slice bW gs.length aZ) (.slice (some ⟨W5.heap.size,0,none⟩) 1 1) _ (by rfl) (by simp [Act.eval,hD]) (by simp [Act.eval,hD]) Jr.out ?_
  exact ak.mk trivial (C3.two (by rfl) (by rfl) (by rfl)) (ah.mk _ _)
 simp only [List.nil_append,List.cons_append]
 apply aH.step
 case aB=>
  intro c A w' hok hC hO hD
  simp [au,ah,aj,Act.eval,Region.binds] at hD
  simp [go_sem,gd,Oper.wp,hD]
  exact ak.mk trivial (C3.skip (by rfl) (by rfl) (by rfl) hC) (ah.mk _ _)
 apply aH.step
 case aB=>
  intro c A w' hok hC hO hD
  simp [au,ah,aj,Act.eval,Region.binds] at hD
  simp [go_sem,gd,Oper.wp,hD]
  exact ak.mk trivial (C3.skip (by rfl) (by rfl) (by rfl) hC) (ah.mk _ _)
 simp only [List.nil_append,List.cons_append]
 refine aH.some (fun _ _=>True) (fun _ _ _ _ _=>trivial) ?_ ?_
 ·intro c A' w' hok hC hO hD
  obtain ⟨rfl,rfl⟩:=C3.w3 hok hC
  simp [au,ah,aj,Act.eval,Region.binds] at hD
  simp [go_sem,gd,Oper.wp,hD,k4,f4]
  exact ak.mF (v:=undef) trivial (C3.three (by rfl) (by rfl) (by rfl)) trivial
 simp only [List.nil_append,List.cons_append]
 refine aH.done ?_
 intro wy GA
 simp only [List.drop_zero]
 intro v0 h0 v1 h1 v2 h2 v3 h3 v4 h4 v5 h5 v6 h6 v7 h7 v8 h8 v9 h9 v10 h10 v11 h11
 clear h0 h1 h2 h3 h4 h5 h6 h7 h8 h9 h10 h11
 refine bM.nil ?_
 refine dQ rfl ?_
 have CK:wy=w4.setCell _ _:=GA
 rw [← CK] at HAD
 clear GA CK k4 f4 K4 K2 hd1 hd2
 go_simp
 have En:Hid (∀k,k < W2.heap.size→w.heap.size≤k→wy.heap[k]? =W2.heap[k]?):=Lib.hid (fun k hk hw=>HAD.out.2.1.far hk (Nat.le_trans HI.out.sz hw) (fun e=>by have:=(HI.out.own k e).2; omega))
 have hY:=HY.out
 have z0:wy.cell? ⟨n1,0,none⟩=some (.slice aC p.ds.length aA):=(World.cell?_of_block (a:=⟨n1,0,none⟩) (En.out n1 hY.2.1.1 QF.out)).trans hY.2.1.2
 have z1:wy.cell? ⟨n1,1,none⟩=some (.slice aF p.ts.length av):=(World.cell?_of_block (a:=⟨n1,1,none⟩) (En.out n1 hY.2.1.1 QF.out)).trans hY.2.2.1.2
 have hn0:w.heap.size < W2.heap.size:=hY.2.2.2.1.1
 have z5:wy.cell? ⟨w.heap.size,5,none⟩=some (.int .i64 h.dU):=(World.cell?_of_block (a:=⟨w.heap.size,5,none⟩) (En.out _ hn0 (Nat.le_refl _))).trans hY.2.2.2.2.2.2.2.2.1.2
 have z6:wy.cell? ⟨w.heap.size,6,none⟩=some (.int .i64 h.xn):=(World.cell?_of_block (a:=⟨w.heap.size,6,none⟩) (En.out _ hn0 (Nat.le_refl _))).trans hY.2.2.2.2.2.2.2.2.2.1.2
 have z7:wy.cell? ⟨w.heap.size,7,none⟩=some (.string h.dV):=(World.cell?_of_block (a:=⟨w.heap.size,7,none⟩) (En.out _ hn0 (Nat.le_refl _))).trans hY.2.2.2.2.2.2.2.2.2.2.1.2
 have z8:wy.cell? ⟨w.heap.size,8,none⟩=some (.slice s.dW h.bq.len s.cB):=(World.cell?_of_block (a:=⟨w.heap.size,8,none⟩) (En.out _ hn0 (Nat.le_refl _))).trans hY.2.2.2.2.2.2.2.2.2.2.2.1.2
 have TS:Hid (h.bq.At wy L.B0 s.dW 0):=Lib.hid (Ip.out.2.2.1.below ((HY.out.1.mono HI.out.b0).trans (HAD.out.2.1.below HI2.out.b0 (fun k e=>(HI2.out.own k e).1))))
 clear hY hn0 En
 go_wp2_with fail
 refine (kJ p i h.dU h.xn h.dV h.bq _ aC aF s.dW aA av s.cB hi (HAD.out.1.dat.use HAD.out.1.b0) jS.out.1.2.2.2.2.2.1 (TS.out.mono HAD.out.1.b0)).mono ?_
 rintro e' W6 ⟨rfl,hb6⟩
 have bY:=Lib.hid hb6
 clear hb6 z0 z1 z5 z6 z7 z8
 go_wp2_with fail
 refine (gU _ _ _).mono ?_
 rintro e' W' ⟨rfl,rfl⟩
 go_wp2_with fail
 go_ret
 exact ⟨aS HR.out.symm,((Kw.of_below HY.out.1).trans (jF.refl _ _) HAD.out.2.1).trans ((jF.refl _ _).trans HAD.out.2.2 HY.out.1.size) (Kw.of_below bY.out),_,_,_,_,(jF.refl _ _).trans HAD.out.2.2 HY.out.1.size,HAD.out.1.below bY.out,fun _=>⟨rfl,rfl⟩⟩
end Go.Proofs.YtnknfoibmgphnaaDoor
end
