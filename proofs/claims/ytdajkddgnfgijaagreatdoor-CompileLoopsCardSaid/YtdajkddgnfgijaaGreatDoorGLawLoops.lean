/-
  The walk of the law CompileLoops: the code of a loop.
-/
import Derived.Test.YtdajkddgnfgijaaGreatDoorGRF
import Derived.Test.YtdajkddgnfgijaaGreatDoorGVP
import Derived.Test.YtdajkddgnfgijaaGreatDoorGCE
set_option linter.unusedSimpArgs false
set_option linter.unusedVariables false
namespace Go.Proofs.YtdajkddgnfgijaaGreatDoor
open Go.RowKit
open Md Pz
theorem TV {p:Pr} {N:Nat} {w w':World} {e:Ending} (h:Gu N w (p,0,0) e w'): ∃aK aG aM aH,e= .returned (.tuple #[.agg #[.slice aK p.ds.length aG,.slice aM p.ts.length aH],.int .i64 0,.int .i64 0])∧p.At w' aK aM∧(p.ds.length≤aG∧p.ts.length≤aH)∧Below w.heap.size w w':=by
 obtain ⟨aK,aG,aM,aH,he,hl,⟨hd,ht⟩,hb,-⟩:=h
 dsimp only at hl ht he hd
 exact ⟨aK,aG,aM,aH,he,⟨by unfold maxLen; omega,by unfold maxLen; omega,hd,ht⟩,⟨hl.2.2.1,hl.2.2.2⟩,hb⟩
def Oa:List bS:=WB.map Sj
set_option maxHeartbeats 8000000 in
set_option maxRecDepth 100000 in
theorem BQ (w:World) (dI:dw w):
 Calls Tryz.prog 3 #[] w fun e w'=>e= .returned (.bool true)∧Below w.heap.size w w':=by
 obtain ⟨p,hp,h0,hfit,hco,hts⟩:=Sy
 have XZ:Hid (∀w,dw w→Calls Tryz.prog 11 #[.string ⟨#[116,104,114,101,97,100,32,116,40,97,41,32,123,32,119,104,105,108,101,32,97,32,60,32,50,32,123,32,97,32,61,32,97,32,43,32,49,59,32,125,32,125]⟩] w (Gu 42 w (p,0,0))):=Lib.hid (fun w h=>by
  have h2:=OD ⟨#[116,104,114,101,97,100,32,116,40,97,41,32,123,32,119,104,105,108,101,32,97,32,60,32,50,32,123,32,97,32,61,32,97,32,43,32,49,59,32,125,32,125]⟩ w h (by decide)
  have e:parse (⟨#[116,104,114,101,97,100,32,116,40,97,41,32,123,32,119,104,105,108,101,32,97,32,60,32,50,32,123,32,97,32,61,32,97,32,43,32,49,59,32,125,32,125]⟩:ByteArray).data.toList=(p,0,0):=hp
  rw [e] at h2
  exact h2)
 have gU:=Lib.hid dI
 have H0:=Lib.hid h0
 have HF:=Lib.hid hfit
 have RI:Hid (zL (kL p) p.ts 0=[⟨3,Oa⟩]):=Lib.hid hco
 have qU:=Lib.hid hts
 clear hp h0 hfit hco hts dI
 go_enter Tryz.func3,Tryz.ntmps3
 go_wp2_with fail
 refine (XZ.out w gU.out).mono ?_
 intro e w1 hpar
 obtain ⟨aK,aG,aM,aH,rfl,hat,-,hb⟩:=TV hpar
 have HAT:=Lib.hid hat
 have HB:=Lib.hid hb
 clear hat hb hpar XZ
 go_upto_region 2 with fail
 obtain ⟨pb,hpb⟩: ∃g,w1.heap.size=g:=⟨_,rfl⟩
 generalize hW:World.alloc w1 _=w2
 have HB2:Hid (Below w1.heap.size w1 w2):=Lib.hid (by rw [← hW]; exact aj _ _)
 have HX:Hid (w2.heap[pb]? =some (.cells #[.slice aK p.ds.length aG,.slice aM p.ts.length aH] 25 (0,0))):=Lib.hid (by rw [← hW,← hpb]; exact heap_alloc_new _ _)
 rw [hpb]
 clear hW hpb
 have Mj:=Lib.hid (HB.out.trans (HB2.out.mono HB.out.size))
 have y0:=aB (j:=0) HX.out rfl
 have y1:=aB (j:=1) HX.out rfl
 go_wp2_with fail
 refine (JD p w2 aK aM aG aH (HAT.out.same HB2.out) (gU.out.same Mj.out) HF.out H0.out).mono ?_
 rintro e w3 ⟨s,aoc,UO,rfl,hwo,htc,-,hb3⟩
 rw [RI.out] at htc
 rw [qU.out]
 obtain ⟨⟨b,off,dZ,dG,hao,hB,x0,x1,-,hfl⟩,-⟩:=htc
 subst hao
 have HFL:=Lib.hid hfl
 have HB3:=Lib.hid (Mj.out.trans (hb3.mono Mj.out.size))
 have wK:=Lib.hid hB
 clear hfl hwo hb3 hB HX HAT y0 y1 HB2 Mj
 generalize kL p=W at *
 clear RI HF H0 qU
 go_upto_region 3 with fail
 obtain ⟨cb,hcb⟩: ∃g,w3.heap.size=g:=⟨_,rfl⟩
 generalize hW:World.alloc w3 _=w4
 have eX:Hid (Below w3.heap.size w3 w4):=Lib.hid (by rw [← hW]; exact aj _ _)
 have HX:Hid (w4.heap[cb]? =some (.cells #[.slice s.aC W.cs.length s.cC,.slice s.aL W.ls.length s.cL,.slice s.aN W.ns.length s.cN,.slice s.aF W.fs.length s.cF,.slice s.aT W.ts.length s.cT,.slice s.aS W.ss.length s.cS,.slice (some ⟨b,off,none⟩) 1 UO] 38 (0,0))):=Lib.hid (by rw [← hW,← hcb]; exact heap_alloc_new _ _)
 rw [hcb]
 clear hW
 have FR:=Lib.hid hcb
 clear hcb
 go_upto_region 4 with fail
 obtain ⟨wb,hwb⟩: ∃g,w4.heap.size=g:=⟨_,rfl⟩
 generalize hW:World.alloc w4 _=w5
 have mR:Hid (Below w4.heap.size w4 w5):=Lib.hid (by rw [← hW]; exact aj _ _)
 have Kl:Hid (w5.heap[wb]? =some (.cells (Oa.flatMap kY).toArray 42 (0,0))):=Lib.hid (by rw [← hW,← hwb]; exact heap_alloc_new _ _)
 rw [hwb]
 clear hW hwb
 have Cj:=Lib.hid ((mR.out.block _ (Array.getElem?_eq_some_iff.1 HX.out).1).trans HX.out)
 have Fj:=Lib.hid (eX.out.trans (mR.out.mono eX.out.size))
 have c6:=aB (j:=6) Cj.out rfl
 simp only [List.getElem_toArray,List.getElem_cons_zero,List.getElem_cons_succ] at c6
 have X0:w5.cell? ⟨b,off,none⟩=some (.int .i64 3):=(Fj.out.cell (p:=⟨b,_,none⟩) wK.out).trans x0
 have X1:w5.cell? ⟨b,off + 1,none⟩=some (.slice dZ 10 dG):=(Fj.out.cell (p:=⟨b,_,none⟩) wK.out).trans x1
 have ae1:=Lib.hid (HFL.out.below Fj.out)
 have UC:=Lib.hid (HB3.out.trans (Fj.out.mono HB3.out.size))
 clear x0 HX
 go_wp2_with fail
 go_loopw [8] (fun v8 wr=> ∃k:Nat,v8= .int .i64 k∧k≤10∧Below w5.heap.size w5 wr) (fun v8 _=>10 - (intOf v8).toNat)
 case atStart=>exact ⟨0,rfl,by decide,Below.refl _ _⟩
 case round=>
  obtain ⟨k,rfl,hk,hb⟩:=hrel
  have lg:=Lib.hid hb
  clear hb c6 X0 X1
  have DL:=Lib.hid ((lg.out.block _ (Array.getElem?_eq_some_iff.1 Cj.out).1).trans Cj.out)
  have Vp:=Lib.hid ((lg.out.block _ (Array.getElem?_eq_some_iff.1 Kl.out).1).trans Kl.out)
  by_cases hk10:k < 10
  ·obtain ⟨x,hx⟩: ∃x,Oa[k]? =some x:=⟨Oa[k]'hk10,List.getElem?_eq_getElem hk10⟩
   obtain ⟨b2,off2,hao,hb2,hcs⟩:=ae1.out.at k x hx
   subst hao
   have hbw:w3.heap.size≤w5.heap.size:=Fj.out.size
   have hb5:b2 < w5.heap.size:=by omega
   have Cm:Hid (b < wr.heap.size):=Lib.hid (by have:=wK.out; have:=lg.out.size; omega)
   have ab0:Hid (b2 < wr.heap.size):=Lib.hid (by have:=lg.out.size; omega)
   have XC: ∀(j:Nat) (u:Value),(kY x)[j]? =some u→ ∀w',Below wr.heap.size wr w'→w'.cell? ⟨b2,off2 + k * 6 + j,none⟩=some u:=fun j u hj w' hb=>by
    have h1:=hcs j u hj
    rw [Nat.zero_add] at h1
    exact (hb.cell (p:=⟨b2,_,none⟩) ab0.out).trans ((lg.out.cell (p:=⟨b2,_,none⟩) hb5).trans h1)
   have ZC: ∀(j:Nat) (u:Value),(kY x)[j]? =some u→ ∀w',Below wr.heap.size wr w'→w'.cell? ⟨wb,k * 6 + j,none⟩=some u:=fun j u hj w' hb=>by
    have h1:=flat_get sZ Oa k x j u hx hj
    exact (hb.cell (p:=⟨wb,_,none⟩) (Array.getElem?_eq_some_iff.1 Vp.out).1).trans (aB Vp.out (by simpa using h1))
   have Y: ∀w',Below wr.heap.size wr w'→w'.cell? ⟨cb,6,none⟩=some (.slice (some ⟨b,off,none⟩) 1 UO):=fun w' hb=>(hb.cell (p:=⟨cb,6,none⟩) (Array.getElem?_eq_some_iff.1 DL.out).1).trans (aB DL.out rfl)
   have Z: ∀w',Below wr.heap.size wr w'→w'.cell? ⟨b,off + 1,none⟩=some (.slice (some ⟨b2,off2,none⟩) 10 dG):=fun w' hb=>(hb.cell (p:=⟨b,_,none⟩) Cm.out).trans ((lg.out.cell (p:=⟨b,_,none⟩) (by have:=wK.out; show b < _; omega)).trans ((Fj.out.cell (p:=⟨b,_,none⟩) wK.out).trans x1))
   have X0:=XC 0 _ rfl
   have X1:=XC 1 _ rfl
   have X2:=XC 2 _ rfl
   have X3:=XC 3 _ rfl
   have X4:=XC 4 _ rfl
   have X5:=XC 5 _ rfl
   have Z0:=ZC 0 _ rfl
   have Z1:=ZC 1 _ rfl
   have Z2:=ZC 2 _ rfl
   have Z3:=ZC 3 _ rfl
   have Z4:=ZC 4 _ rfl
   have Z5:=ZC 5 _ rfl
   simp only [Nat.add_zero] at X0 Z0
   have k0:(0:Int)≤(k:Int):=by omega
   have k1:(k:Int) < 10:=by omega
   clear XC ZC hx hcs hbw hb5
   go_wp2_with fail
   refine gy (by kernel_rfl) rfl ?_
   refine fU 0 13 [] [[],[0],[0,1],[0,1,2],[0,1,2,3],[],[0,1,2,3,4,5],[0,1,2,3,4,5,6],[],[],[8,9],[8,9,10],[0,1,2,3,4,5,6,7,8,9,10,11]] [[],[],[],[],[],[],[],[],[],[],[],[],[]] (fun _ w'=>Below wr.heap.size wr w') (fun w w'=>Below w.heap.size w w') [64,65,66,67,68,69,70,71,72,73,74,75,76] rfl rfl (by rfl) (by kernel_rfl) (by kernel_rfl) (by kernel_rfl) (by kernel_rfl) (by kernel_rfl) (by rfl) (fun _=>Below.refl _ _) (by rfl) (below_drewN (Below.refl _ _) 1) ?_
   simp only [List.take_succ_cons,List.take_zero,List.drop_zero,List.drop_succ_cons,mE,List.map_cons,List.map_nil]
   apply bg.step
   case aD=>
    intro c A w' hok hC hO hD
    have e4:=hO 4 (by rfl)
    simp [Act.eval] at e4
    simp [ay,ak,au,Act.eval,Region.binds] at hD
    simp [go_sem,gd,Oper.wp,hD,e4]
    exact aA.mk (Below.refl _ _) hC (ak.mk _ _)
   apply bg.step
   case aD=>
    intro c A w' hok hC hO hD
    simp [ay,ak,au,Act.eval,Region.binds] at hD
    simp [go_sem,gd,Oper.wp,hD,Y,hC]
    exact aA.mk (Below.refl _ _) hC (ak.mk _ _)
   apply bg.step
   case aD=>
    intro c A w' hok hC hO hD
    simp [ay,ak,au,Act.eval,Region.binds] at hD
    simp [go_sem,gd,Oper.wp,hD]
    exact aA.mk (Below.refl _ _) hC (ak.mk _ _)
   apply bg.step
   case aD=>
    intro c A w' hok hC hO hD
    simp [ay,ak,au,Act.eval,Region.binds] at hD
    simp [go_sem,gd,Oper.wp,hD]
    exact aA.mk (Below.refl _ _) hC (ak.mk _ _)
   apply bg.step
   case aD=>
    intro c A w' hok hC hO hD
    simp [ay,ak,au,Act.eval,Region.binds] at hD
    simp [go_sem,gd,Oper.wp,hD,Z,hC]
    exact aA.mk (Below.refl _ _) hC (ak.mk _ _)
   simp only [List.nil_append,List.cons_append]
   apply bg.step
   case aD=>
    intro c A w' hok hC hO hD
    have e8:=hO 8 (by rfl)
    simp [Act.eval] at e8
    simp [ay,ak,au,Act.eval,Region.binds] at hD
    simp [go_sem,gd,Oper.wp,hD,e8]
    exact aA.mk (Below.refl _ _) hC (ak.mk _ _)
   apply bg.step
   case aD=>
    intro c A w' hok hC hO hD
    simp [ay,ak,au,Act.eval,Region.binds] at hD
    simp [go_sem,gd,Oper.wp,hD,k0,k1]
    exact aA.mk (Below.refl _ _) hC (ak.mk _ _)
   apply bg.step
   case aD=>
    intro c A w' hok hC hO hD
    simp [ay,ak,au,Act.eval,Region.binds] at hD
    simp [go_sem,gd,Oper.wp,hD,X0,X1,X2,X3,X4,X5,hC]
    exact aA.mk (Below.refl _ _) hC (ak.mk _ _)
   apply bg.step
   case aD=>
    intro c A w' hok hC hO hD
    have e7:=hO 7 (by rfl)
    simp [Act.eval] at e7
    simp [ay,ak,au,Act.eval,Region.binds] at hD
    simp [go_sem,gd,Oper.wp,hD,e7]
    exact aA.mk (Below.refl _ _) hC (ak.mk _ _)
   apply bg.step
   case aD=>
    intro c A w' hok hC hO hD
    have e8:=hO 8 (by rfl)
    simp [Act.eval] at e8
    simp [ay,ak,au,Act.eval,Region.binds] at hD
    simp [go_sem,gd,Oper.wp,hD,e8]
    exact aA.mk (Below.refl _ _) hC (ak.mk _ _)
   simp only [List.nil_append,List.cons_append]
   apply bg.step
   case aD=>
    intro c A w' hok hC hO hD
    simp [ay,ak,au,Act.eval,Region.binds] at hD
    simp [go_sem,gd,Oper.wp,hD,k0,k1]
    exact aA.mk (Below.refl _ _) hC (ak.mk _ _)
   apply bg.step
   case aD=>
    intro c A w' hok hC hO hD
    simp [ay,ak,au,Act.eval,Region.binds] at hD
    simp [go_sem,gd,Oper.wp,hD,Z0,Z1,Z2,Z3,Z4,Z5,hC]
    exact aA.mk (Below.refl _ _) hC (ak.mk _ _)
   apply bg.step
   case aD=>
    intro c A w' hok hC hO hD
    simp [ay,ak,au,Act.eval,Region.binds] at hD
    simp [go_sem,gd,Oper.wp,hD]
    exact aA.mk (Below.refl _ _) hC (ak.mk _ _)
   simp only [List.nil_append,List.cons_append]
   try simp only [List.nil_append,List.cons_append]
   refine bg.done ?_
   intro wz fH
   try simp only [List.drop_zero,List.drop_succ_cons]
   intro v0 h0 v1 h1 v2 h2 v3 h3 v4 h4 v5 h5 v6 h6 v7 h7 v8 h8 v9 h9 v10 h10 v11 h11 v12 h12
   have h0':=Eq.symm (show v0=_ from h0)
   subst h0'
   have h1':=Eq.symm (show v1=_ from h1)
   subst h1'
   have h2':=Eq.symm (show v2=_ from h2)
   subst h2'
   have h3':=Eq.symm (show v3=_ from h3)
   subst h3'
   have h4':=Eq.symm (show v4=_ from h4)
   subst h4'
   have h5':=Eq.symm (show v5=_ from h5)
   subst h5'
   have h6':=Eq.symm (show v6=_ from h6)
   subst h6'
   have Bv:=Eq.symm (show v7=_ from h7)
   subst Bv
   have h8':=Eq.symm (show v8=_ from h8)
   subst h8'
   have UD:=Eq.symm (show v9=_ from h9)
   subst UD
   have Q7:=Eq.symm (show v10=_ from h10)
   subst Q7
   have CU:=Eq.symm (show v11=_ from h11)
   subst CU
   have QY:=Eq.symm (show v12=_ from h12)
   subst QY
   clear h0 h1 h2 h3 h4 h5 h6 h7 h8 h9 h10 h11 h12
   refine eG.nil ?_
   go_simp
   refine iG rfl ?_
   go_simp
   have uZ:=Lib.hid (lg.out.trans (fH.mono lg.out.size))
   clear Y Z fH X0 X1 X2 X3 X4 X5 Z0 Z1 Z2 Z3 Z4 Z5
   go_wp2_with fail
   go_roundw
   case rel=>exact ⟨k + 1,by go_num,by omega,uZ.out⟩
   case measure=>simp [intOf]; omega
  ·obtain rfl:k=10:=by omega
   go_wp2_with fail
   go_ret
   exact ⟨rfl,UC.out.trans (lg.out.mono UC.out.size)⟩
end Go.Proofs.YtdajkddgnfgijaaGreatDoor
