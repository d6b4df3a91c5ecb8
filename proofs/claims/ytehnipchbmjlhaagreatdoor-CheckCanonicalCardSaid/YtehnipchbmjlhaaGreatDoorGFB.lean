/-
  Contracts of the printer's indent and head (printed by gen_fmh.py).
  How long the printer's texts are. No program in sight.
  Contracts of the printer's Stmt and stmts.
-/
import Derived.Test.YtehnipchbmjlhaaGreatDoorGFA
set_option linter.unusedSimpArgs false
set_option linter.unusedVariables false
set_option maxHeartbeats 40000000
set_option maxRecDepth 1000000
section
namespace Go.Proofs.YtehnipchbmjlhaaGreatDoor
open Go.RowKit
open Md Fm
theorem uD: ∀n,(mU n).size=2 * n
 | 0=>rfl
 | n + 1=>by unfold mU; rw [ByteArray.size_append,uD n,show (⟨#[32,32]⟩:ByteArray).size=2 from rfl]; omega
theorem Lh (n:Nat) (hn:n≤1000000000000000000) (w:World):
 Calls Tryz.prog 98 #[.int .i64 (n:Int)] w fun e w'=>e= .returned (.string (mU n))∧w=w':=by
 go_enter Tryz.func98,Tryz.ntmps98
 go_wp2_with fail
 go_loop [3,4] (fun s i=> ∃k:Nat,k≤n∧i= .int .i64 k∧s= .string (mU k)) (fun _ i=>n - (intOf i).toNat)
 case atStart=>exact ⟨0,Nat.zero_le _,rfl,rfl⟩
 case round=>
  obtain ⟨k,hk,rfl,rfl⟩:=hrel
  by_cases hlt:k < n
  ·have hs:=uD k
   have hs':(mU k).size≤2000000000000000000:=by omega
   have HS:Hid (mU (k + 1)=mU k++⟨#[32,32]⟩):=Lib.hid rfl
   clear hs
   generalize mU k=t at *
   go_wp2_with fail
   go_round
   case rel=>exact ⟨k + 1,by omega,by go_num,by rw [HS.out]⟩
   case measure=>simp [intOf]; omega
  ·have e:k=n:=by omega
   subst e
   go_wp2_with fail
   go_ret
   exact ⟨rfl,rfl⟩
theorem shX {h:aV} {bl el:Nat} (hs:iq h bl el=true) (hx:fX h.op=true):dS h.bD h.xn h.bC h.aL=true:=by
 unfold iq at hs
 rw [hx] at hs
 simp only [Bool.and_eq_true,if_true] at hs
 exact hs.2.1
theorem shI {h:aV} {bl el:Nat} (hs:iq h bl el=true):h.idx.len≤1∧iy h.idx=true:=by
 unfold iq at hs
 simp only [Bool.and_eq_true,decide_eq_true_eq] at hs
 exact ⟨hs.1.2.1.1,hs.1.2.2⟩
theorem shO {h:aV} {bl el:Nat} (hs:iq h bl el=true):1≤h.op∧h.op≤15:=by
 unfold iq fO at hs
 simp only [Bool.and_eq_true,decide_eq_true_eq] at hs
 exact hs.1.1.1
theorem jC (op:Int):(iK op).size≤11:=by
 unfold iK
 simp only [apply_ite ByteArray.size]
 repeat (refine Io (by decide) ?_)
 decide
theorem Qm (h:aV) (b e:aN) (s:Sl) (w:World) (hin:nG w h b e s) (hsh:iq h b.len e.len=true) (hwt:vE h≤1152921504606846976) (hp:jU w):
 Calls Tryz.prog 99 #[dx h b e s] w fun e' w'=>e'= .returned (.string (eH h))∧Below w.heap.size w w':=by
 obtain ⟨op,line,nm,arg,idx,bD,xn,bC,aL⟩:=h
 have hop:=shO hsh
 dsimp only at hop
 unfold vE lI at hwt
 dsimp only at hwt
 have hnm:nm.size≤1152921504606846976:=by omega
 have har:arg.size≤1152921504606846976:=by omega
 have HX:Hid (fX op=true→ ∀w',Below w.heap.size w w'→Calls Tryz.prog 19 #[.agg #[.int .i64 bD,.int .i64 xn,.string bC,.slice s.bS aL.len s.bf]] w' fun e' w2=>e'= .returned (.string (bM bD xn bC aL))∧Below w'.heap.size w' w2):=Lib.hid (fun hx w' hb=>
  FB bD xn bC aL w' s.bS s.bf hin.1.2.2.2.2.2.1 (shX hsh hx) (by unfold lI; omega) (hin.2.2.1.same hb) (hp.next hb))
 have Ni:Hid ((bM bD xn bC aL).size≤1152921504606846976):=Lib.hid (by
  have:=kF (kids:=aL) bD xn bC hin.1.2.2.2.2.2.1.2.1 hin.2.2.1
  unfold lI at this; omega)
 have HI:=Lib.hid (shI hsh)
 have jD:=Lib.hid hin
 have iR:=Lib.hid hp
 have ZN:Hid (qR idx≤1152921504606846976):=Lib.hid (by omega)
 have E5:Hid (∀c,op=c→eH ⟨c,line,nm,arg,idx,bD,xn,bC,aL⟩=eH ⟨op,line,nm,arg,idx,bD,xn,bC,aL⟩):=Lib.hid (fun c e=>by rw [e])
 clear hin hsh hwt hp
 have hc:op=1∨op=2∨op=3∨op=4∨op=5∨op=6∨op=7∨op=8∨op=9∨op=10∨op=11∨op=12∨op=13∨op=14∨op=15:=by omega
 clear hop E5
 rcases hc with rfl | rfl | rfl | rfl | rfl | rfl | rfl | rfl | rfl | rfl | rfl | rfl | rfl | rfl | rfl
 ·cases idx with
  | nil=>
    have iE:=Lib.hid (HX.out rfl)
    have HE:Hid (eH ⟨1,line,nm,arg,aP.nil,bD,xn,bC,aL⟩=(((nm++⟨#[]⟩)++⟨#[32,61,32]⟩)++bM bD xn bC aL)++⟨#[59]⟩):=Lib.hid rfl
    rw [HE.out]
    clear HE HX
    have hxz:=Ni.out
    generalize bM bD xn bC aL=xt at *
    unfold dx
    dsimp only
    go_enter Tryz.func99,Tryz.ntmps99
    go_upto_region 1 with fail
    have HZ:=Lib.hid ((Sit.start w).gF (n:=w.heap.size) rfl (.int .i64 1) (.int .i64 line) (.string nm) (.string arg) (.slice s.dF (aP.nil).len s.bT) (.int .i64 bD) (.int .i64 xn) (.string bC) (.slice s.bS aL.len s.bf) (.slice s.bG b.len s.aS) (.slice s.dw e.len s.bR) 89)
    generalize hW:World.alloc w _=W
    rw [hW] at HZ
    clear hW
    go_upto_region 2 with fail
    have HY:=Lib.hid (HZ.out.next (ah W (.cells #[.string ⟨#[]⟩,.string ⟨#[]⟩,.string ⟨#[105,102]⟩,.string ⟨#[119,104,105,108,101]⟩,.string ⟨#[108,111,99,107]⟩,.string ⟨#[114,101,97,100]⟩,.string ⟨#[119,114,105,116,101]⟩,.string ⟨#[116,114,97,110,115,97,99,116,105,111,110]⟩,.string ⟨#[97,116,111,109,105,99]⟩,.string ⟨#[119,97,105,116]⟩,.string ⟨#[110,111,116,105,102,121]⟩,.string ⟨#[110,111,116,105,102,121,97,108,108]⟩,.string ⟨#[115,112,97,119,110]⟩,.string ⟨#[106,111,105,110]⟩,.string ⟨#[115,101,116]⟩,.string ⟨#[103,101,116]⟩] 9)))
    have dM:=Lib.hid (heap_alloc_new W (.cells #[.string ⟨#[]⟩,.string ⟨#[]⟩,.string ⟨#[105,102]⟩,.string ⟨#[119,104,105,108,101]⟩,.string ⟨#[108,111,99,107]⟩,.string ⟨#[114,101,97,100]⟩,.string ⟨#[119,114,105,116,101]⟩,.string ⟨#[116,114,97,110,115,97,99,116,105,111,110]⟩,.string ⟨#[97,116,111,109,105,99]⟩,.string ⟨#[119,97,105,116]⟩,.string ⟨#[110,111,116,105,102,121]⟩,.string ⟨#[110,111,116,105,102,121,97,108,108]⟩,.string ⟨#[115,112,97,119,110]⟩,.string ⟨#[106,111,105,110]⟩,.string ⟨#[115,101,116]⟩,.string ⟨#[103,101,116]⟩] 9))
    generalize hW:World.alloc W _=W1
    rw [hW] at HY dM
    clear hW HZ
    have cw:W1.cell? ⟨W.heap.size,1,none⟩=some (.string ⟨#[]⟩):=aG dM.out rfl
    obtain ⟨wb,hwb⟩: ∃g,W.heap.size=g:=⟨_,rfl⟩
    rw [hwb] at cw ⊢
    clear dM hwb
    obtain ⟨-,⟨-,c0⟩,⟨-,c1⟩,⟨-,c2⟩,⟨-,c3⟩,⟨-,c4⟩,⟨-,c5⟩,⟨-,c6⟩,⟨-,c7⟩,⟨-,c8⟩,⟨-,c9⟩,⟨-,c10⟩,-⟩:=HY.out
    simp only [aP.len] at c4
    go_upto_region 8 with fail
    obtain ⟨T,F,yO,hst,hF,hnext⟩:=calm W1
    have HF:=Lib.hid hF
    have fZ:=Lib.hid hnext
    clear hnext hF
    have d0:=fun x=>(HY.out.next (HF.out x)).2.1.2
    have d1:=fun x=>(HY.out.next (HF.out x)).2.2.1.2
    have d2:=fun x=>(HY.out.next (HF.out x)).2.2.2.1.2
    have d3:=fun x=>(HY.out.next (HF.out x)).2.2.2.2.1.2
    have d4:=fun x=>(HY.out.next (HF.out x)).2.2.2.2.2.1.2
    have d5:=fun x=>(HY.out.next (HF.out x)).2.2.2.2.2.2.1.2
    have d6:=fun x=>(HY.out.next (HF.out x)).2.2.2.2.2.2.2.1.2
    have d7:=fun x=>(HY.out.next (HF.out x)).2.2.2.2.2.2.2.2.1.2
    have d8:=fun x=>(HY.out.next (HF.out x)).2.2.2.2.2.2.2.2.2.1.2
    have d9:=fun x=>(HY.out.next (HF.out x)).2.2.2.2.2.2.2.2.2.2.1.2
    have mh:=fun x=>(HY.out.next (HF.out x)).2.2.2.2.2.2.2.2.2.2.2.1.2
    clear c0 c1 c2 c3 c4 c5 c6 c7 c8 c9 c10
    refine iZ F (by kernel_rfl) (by kernel_rfl) hst ?_
    repeat (any_goals (first | go_big_quiet_step ((go_at_call 19; refine (iE.out _ (HY.out.1.trans ((HF.out _).mono HY.out.1.size))).mono ?_; rintro e' w' ⟨rfl,hb⟩; exact ⟨rfl,fZ.out _ _ hb⟩)) | (refine wpQuiet_step (fun K hK=> ?_); go_simp; first | (refine hK _ ?_; clear hK K) | (split <;> first | (refine hK _ ?_; clear hK K) | (apply Exists.intro; refine ⟨fun _=> ?_,hK _ ?_⟩; ((go_at_call 19; refine (iE.out _ (HY.out.1.trans ((HF.out _).mono HY.out.1.size))).mono ?_; rintro e' w' ⟨rfl,hb⟩; exact ⟨rfl,fZ.out _ _ hb⟩)); clear hK K)))))
    all_goals (refine wpQuiet_nil ?_; rintro _ ⟨x,rfl⟩)
    have HB:=Lib.hid (HY.out.1.trans ((HF.out x).mono HY.out.1.size))
    clear d0 d1 d2 d3 d4 d5 d6 d7 d8 d9 mh HF fZ hst
    generalize F x=W3 at *
    go_wp2_with fail
    go_ret
    exact ⟨rfl,HB.out⟩
  | cons o m s0 k r=>
    obtain ⟨⟨b0,fJ,yt,cap0,hao,hb0,x0,x1,x2,x3,hok0,qh⟩,-⟩:=jD.out.2.1
    have hsk:dS o m s0 k=true:=by have:=HI.out.2; unfold iy at this; rw [Bool.and_eq_true,Bool.and_eq_true] at this; unfold dS; rw [Bool.and_eq_true]; exact this.1
    have hwk:lI s0 k≤1152921504606846976:=by have:=ZN.out; unfold qR at this; unfold lI; omega
    have RS:=Lib.hid (fun w' hb=>FB o m s0 k w' yt cap0 hok0 hsk hwk (qh.same hb) (iR.out.next hb))
    have hiz:(bM o m s0 k).size≤1152921504606846976:=Nat.le_trans (kF o m s0 hok0.2.1 qh) hwk
    have qo:=Lib.hid (And.intro hb0 (And.intro x0 (And.intro x1 (And.intro x2 x3))))
    have Sv:=Lib.hid hao
    clear x0 x1 x2 x3 hok0 qh hsk hwk hb0 jD HI ZN hao
    have iE:=Lib.hid (HX.out rfl)
    have HE:Hid (eH ⟨1,line,nm,arg,(aP.cons o m s0 k r),bD,xn,bC,aL⟩=(((nm++((⟨#[91]⟩++bM o m s0 k)++⟨#[93]⟩))++⟨#[32,61,32]⟩)++bM bD xn bC aL)++⟨#[59]⟩):=Lib.hid rfl
    rw [HE.out]
    clear HE HX
    have hxz:=Ni.out
    generalize bM bD xn bC aL=xt at *
    generalize bM o m s0 k=ik at *
    unfold dx
    dsimp only
    go_enter Tryz.func99,Tryz.ntmps99
    go_upto_region 1 with fail
    have HZ:=Lib.hid ((Sit.start w).gF (n:=w.heap.size) rfl (.int .i64 1) (.int .i64 line) (.string nm) (.string arg) (.slice s.dF ((aP.cons o m s0 k r)).len s.bT) (.int .i64 bD) (.int .i64 xn) (.string bC) (.slice s.bS aL.len s.bf) (.slice s.bG b.len s.aS) (.slice s.dw e.len s.bR) 89)
    generalize hW:World.alloc w _=W
    rw [hW] at HZ
    clear hW
    go_upto_region 2 with fail
    have HY:=Lib.hid (HZ.out.next (ah W (.cells #[.string ⟨#[]⟩,.string ⟨#[]⟩,.string ⟨#[105,102]⟩,.string ⟨#[119,104,105,108,101]⟩,.string ⟨#[108,111,99,107]⟩,.string ⟨#[114,101,97,100]⟩,.string ⟨#[119,114,105,116,101]⟩,.string ⟨#[116,114,97,110,115,97,99,116,105,111,110]⟩,.string ⟨#[97,116,111,109,105,99]⟩,.string ⟨#[119,97,105,116]⟩,.string ⟨#[110,111,116,105,102,121]⟩,.string ⟨#[110,111,116,105,102,121,97,108,108]⟩,.string ⟨#[115,112,97,119,110]⟩,.string ⟨#[106,111,105,110]⟩,.string ⟨#[115,101,116]⟩,.string ⟨#[103,101,116]⟩] 9)))
    have dM:=Lib.hid (heap_alloc_new W (.cells #[.string ⟨#[]⟩,.string ⟨#[]⟩,.string ⟨#[105,102]⟩,.string ⟨#[119,104,105,108,101]⟩,.string ⟨#[108,111,99,107]⟩,.string ⟨#[114,101,97,100]⟩,.string ⟨#[119,114,105,116,101]⟩,.string ⟨#[116,114,97,110,115,97,99,116,105,111,110]⟩,.string ⟨#[97,116,111,109,105,99]⟩,.string ⟨#[119,97,105,116]⟩,.string ⟨#[110,111,116,105,102,121]⟩,.string ⟨#[110,111,116,105,102,121,97,108,108]⟩,.string ⟨#[115,112,97,119,110]⟩,.string ⟨#[106,111,105,110]⟩,.string ⟨#[115,101,116]⟩,.string ⟨#[103,101,116]⟩] 9))
    generalize hW:World.alloc W _=W1
    rw [hW] at HY dM
    clear hW HZ
    have cw:W1.cell? ⟨W.heap.size,1,none⟩=some (.string ⟨#[]⟩):=aG dM.out rfl
    obtain ⟨wb,hwb⟩: ∃g,W.heap.size=g:=⟨_,rfl⟩
    rw [hwb] at cw ⊢
    clear dM hwb
    obtain ⟨-,⟨-,c0⟩,⟨-,c1⟩,⟨-,c2⟩,⟨-,c3⟩,⟨-,c4⟩,⟨-,c5⟩,⟨-,c6⟩,⟨-,c7⟩,⟨-,c8⟩,⟨-,c9⟩,⟨-,c10⟩,-⟩:=HY.out
    have y0:=(HY.out.1.cell (p:=⟨b0,fJ + 0 * 4,none⟩) qo.out.1).trans qo.out.2.1
    have y1:=(HY.out.1.cell (p:=⟨b0,fJ + 0 * 4 + 1,none⟩) qo.out.1).trans qo.out.2.2.1
    have y2:=(HY.out.1.cell (p:=⟨b0,fJ + 0 * 4 + 2,none⟩) qo.out.1).trans qo.out.2.2.2.1
    have y3:=(HY.out.1.cell (p:=⟨b0,fJ + 0 * 4 + 3,none⟩) qo.out.1).trans qo.out.2.2.2.2
    simp only [Nat.zero_mul,Nat.add_zero] at y0 y1 y2 y3
    rw [Sv.out] at c4
    simp only [aP.len] at c4
    have hlr:(0:Int) < ((r.len + 1:Nat):Int):=by omega
    go_wp2_with fail
    refine (RS.out _ HY.out.1).mono ?_
    rintro e' w3 ⟨rfl,hb⟩
    have HV:=Lib.hid (HY.out.next hb)
    clear hb c0 c1 c2 c3 c4 c5 c6 c7 c8 c9 c10 y0 y1 y2 y3 RS
    obtain ⟨-,⟨-,c0⟩,⟨-,c1⟩,⟨-,c2⟩,⟨-,c3⟩,⟨-,c4⟩,⟨-,c5⟩,⟨-,c6⟩,⟨-,c7⟩,⟨-,c8⟩,⟨-,c9⟩,⟨-,c10⟩,-⟩:=HV.out
    go_upto_region 8 with fail
    obtain ⟨T,F,yO,hst,hF,hnext⟩:=calm w3
    have HF:=Lib.hid hF
    have fZ:=Lib.hid hnext
    clear hnext hF
    have d0:=fun x=>(HV.out.next (HF.out x)).2.1.2
    have d1:=fun x=>(HV.out.next (HF.out x)).2.2.1.2
    have d2:=fun x=>(HV.out.next (HF.out x)).2.2.2.1.2
    have d3:=fun x=>(HV.out.next (HF.out x)).2.2.2.2.1.2
    have d4:=fun x=>(HV.out.next (HF.out x)).2.2.2.2.2.1.2
    have d5:=fun x=>(HV.out.next (HF.out x)).2.2.2.2.2.2.1.2
    have d6:=fun x=>(HV.out.next (HF.out x)).2.2.2.2.2.2.2.1.2
    have d7:=fun x=>(HV.out.next (HF.out x)).2.2.2.2.2.2.2.2.1.2
    have d8:=fun x=>(HV.out.next (HF.out x)).2.2.2.2.2.2.2.2.2.1.2
    have d9:=fun x=>(HV.out.next (HF.out x)).2.2.2.2.2.2.2.2.2.2.1.2
    have mh:=fun x=>(HV.out.next (HF.out x)).2.2.2.2.2.2.2.2.2.2.2.1.2
    clear c0 c1 c2 c3 c4 c5 c6 c7 c8 c9 c10
    refine iZ F (by kernel_rfl) (by kernel_rfl) hst ?_
    repeat (any_goals (first | go_big_quiet_step ((go_at_call 19; refine (iE.out _ (HV.out.1.trans ((HF.out _).mono HV.out.1.size))).mono ?_; rintro e' w' ⟨rfl,hb⟩; exact ⟨rfl,fZ.out _ _ hb⟩)) | (refine wpQuiet_step (fun K hK=> ?_); go_simp; first | (refine hK _ ?_; clear hK K) | (split <;> first | (refine hK _ ?_; clear hK K) | (apply Exists.intro; refine ⟨fun _=> ?_,hK _ ?_⟩; ((go_at_call 19; refine (iE.out _ (HV.out.1.trans ((HF.out _).mono HV.out.1.size))).mono ?_; rintro e' w' ⟨rfl,hb⟩; exact ⟨rfl,fZ.out _ _ hb⟩)); clear hK K)))))
    all_goals (refine wpQuiet_nil ?_; rintro _ ⟨x,rfl⟩)
    have HB:=Lib.hid (HV.out.1.trans ((HF.out x).mono HV.out.1.size))
    clear d0 d1 d2 d3 d4 d5 d6 d7 d8 d9 mh HF fZ hst
    generalize F x=W3 at *
    go_wp2_with fail
    go_ret
    exact ⟨rfl,HB.out⟩
 ·have iE:=Lib.hid (HX.out rfl)
  have HE:Hid (eH ⟨2,line,nm,arg,idx,bD,xn,bC,aL⟩=((iK 2++⟨#[32]⟩)++bM bD xn bC aL)++⟨#[32,123]⟩):=Lib.hid rfl
  rw [HE.out]
  clear HE HX
  have hxz:=Ni.out
  obtain ⟨wd,dL⟩: ∃wd,Hid (iK 2=wd):=⟨_,Lib.hid rfl⟩
  have hwd:wd.size≤11:=by rw [← dL.out]; exact jC 2
  rw [dL.out]
  generalize bM bD xn bC aL=xt at *
  unfold dx
  dsimp only
  go_enter Tryz.func99,Tryz.ntmps99
  go_upto_region 1 with fail
  have HZ:=Lib.hid ((Sit.start w).gF (n:=w.heap.size) rfl (.int .i64 2) (.int .i64 line) (.string nm) (.string arg) (.slice s.dF (idx).len s.bT) (.int .i64 bD) (.int .i64 xn) (.string bC) (.slice s.bS aL.len s.bf) (.slice s.bG b.len s.aS) (.slice s.dw e.len s.bR) 89)
  generalize hW:World.alloc w _=W
  rw [hW] at HZ
  clear hW
  go_upto_region 2 with fail
  have HY:=Lib.hid (HZ.out.next (ah W (.cells #[.string ⟨#[]⟩,.string ⟨#[]⟩,.string ⟨#[105,102]⟩,.string ⟨#[119,104,105,108,101]⟩,.string ⟨#[108,111,99,107]⟩,.string ⟨#[114,101,97,100]⟩,.string ⟨#[119,114,105,116,101]⟩,.string ⟨#[116,114,97,110,115,97,99,116,105,111,110]⟩,.string ⟨#[97,116,111,109,105,99]⟩,.string ⟨#[119,97,105,116]⟩,.string ⟨#[110,111,116,105,102,121]⟩,.string ⟨#[110,111,116,105,102,121,97,108,108]⟩,.string ⟨#[115,112,97,119,110]⟩,.string ⟨#[106,111,105,110]⟩,.string ⟨#[115,101,116]⟩,.string ⟨#[103,101,116]⟩] 9)))
  have dM:=Lib.hid (heap_alloc_new W (.cells #[.string ⟨#[]⟩,.string ⟨#[]⟩,.string ⟨#[105,102]⟩,.string ⟨#[119,104,105,108,101]⟩,.string ⟨#[108,111,99,107]⟩,.string ⟨#[114,101,97,100]⟩,.string ⟨#[119,114,105,116,101]⟩,.string ⟨#[116,114,97,110,115,97,99,116,105,111,110]⟩,.string ⟨#[97,116,111,109,105,99]⟩,.string ⟨#[119,97,105,116]⟩,.string ⟨#[110,111,116,105,102,121]⟩,.string ⟨#[110,111,116,105,102,121,97,108,108]⟩,.string ⟨#[115,112,97,119,110]⟩,.string ⟨#[106,111,105,110]⟩,.string ⟨#[115,101,116]⟩,.string ⟨#[103,101,116]⟩] 9))
  generalize hW:World.alloc W _=W1
  rw [hW] at HY dM
  clear hW HZ
  have cw:W1.cell? ⟨W.heap.size,2,none⟩=some (.string wd):=by rw [← dL.out]; exact aG dM.out rfl
  obtain ⟨wb,hwb⟩: ∃g,W.heap.size=g:=⟨_,rfl⟩
  rw [hwb] at cw ⊢
  clear dM hwb
  obtain ⟨-,⟨-,c0⟩,⟨-,c1⟩,⟨-,c2⟩,⟨-,c3⟩,⟨-,c4⟩,⟨-,c5⟩,⟨-,c6⟩,⟨-,c7⟩,⟨-,c8⟩,⟨-,c9⟩,⟨-,c10⟩,-⟩:=HY.out
  go_wp2_with fail
  refine (iE.out _ HY.out.1).mono ?_
  rintro e' w3 ⟨rfl,hb⟩
  have HB:=Lib.hid ((HY.out.next hb).1)
  clear hb
  go_wp2_with fail
  go_ret
  exact ⟨rfl,HB.out⟩
 ·have iE:=Lib.hid (HX.out rfl)
  have HE:Hid (eH ⟨3,line,nm,arg,idx,bD,xn,bC,aL⟩=((iK 3++⟨#[32]⟩)++bM bD xn bC aL)++⟨#[32,123]⟩):=Lib.hid rfl
  rw [HE.out]
  clear HE HX
  have hxz:=Ni.out
  obtain ⟨wd,dL⟩: ∃wd,Hid (iK 3=wd):=⟨_,Lib.hid rfl⟩
  have hwd:wd.size≤11:=by rw [← dL.out]; exact jC 3
  rw [dL.out]
  generalize bM bD xn bC aL=xt at *
  unfold dx
  dsimp only
  go_enter Tryz.func99,Tryz.ntmps99
  go_upto_region 1 with fail
  have HZ:=Lib.hid ((Sit.start w).gF (n:=w.heap.size) rfl (.int .i64 3) (.int .i64 line) (.string nm) (.string arg) (.slice s.dF (idx).len s.bT) (.int .i64 bD) (.int .i64 xn) (.string bC) (.slice s.bS aL.len s.bf) (.slice s.bG b.len s.aS) (.slice s.dw e.len s.bR) 89)
  generalize hW:World.alloc w _=W
  rw [hW] at HZ
  clear hW
  go_upto_region 2 with fail
  have HY:=Lib.hid (HZ.out.next (ah W (.cells #[.string ⟨#[]⟩,.string ⟨#[]⟩,.string ⟨#[105,102]⟩,.string ⟨#[119,104,105,108,101]⟩,.string ⟨#[108,111,99,107]⟩,.string ⟨#[114,101,97,100]⟩,.string ⟨#[119,114,105,116,101]⟩,.string ⟨#[116,114,97,110,115,97,99,116,105,111,110]⟩,.string ⟨#[97,116,111,109,105,99]⟩,.string ⟨#[119,97,105,116]⟩,.string ⟨#[110,111,116,105,102,121]⟩,.string ⟨#[110,111,116,105,102,121,97,108,108]⟩,.string ⟨#[115,112,97,119,110]⟩,.string ⟨#[106,111,105,110]⟩,.string ⟨#[115,101,116]⟩,.string ⟨#[103,101,116]⟩] 9)))
  have dM:=Lib.hid (heap_alloc_new W (.cells #[.string ⟨#[]⟩,.string ⟨#[]⟩,.string ⟨#[105,102]⟩,.string ⟨#[119,104,105,108,101]⟩,.string ⟨#[108,111,99,107]⟩,.string ⟨#[114,101,97,100]⟩,.string ⟨#[119,114,105,116,101]⟩,.string ⟨#[116,114,97,110,115,97,99,116,105,111,110]⟩,.string ⟨#[97,116,111,109,105,99]⟩,.string ⟨#[119,97,105,116]⟩,.string ⟨#[110,111,116,105,102,121]⟩,.string ⟨#[110,111,116,105,102,121,97,108,108]⟩,.string ⟨#[115,112,97,119,110]⟩,.string ⟨#[106,111,105,110]⟩,.string ⟨#[115,101,116]⟩,.string ⟨#[103,101,116]⟩] 9))
  generalize hW:World.alloc W _=W1
  rw [hW] at HY dM
  clear hW HZ
  have cw:W1.cell? ⟨W.heap.size,3,none⟩=some (.string wd):=by rw [← dL.out]; exact aG dM.out rfl
  obtain ⟨wb,hwb⟩: ∃g,W.heap.size=g:=⟨_,rfl⟩
  rw [hwb] at cw ⊢
  clear dM hwb
  obtain ⟨-,⟨-,c0⟩,⟨-,c1⟩,⟨-,c2⟩,⟨-,c3⟩,⟨-,c4⟩,⟨-,c5⟩,⟨-,c6⟩,⟨-,c7⟩,⟨-,c8⟩,⟨-,c9⟩,⟨-,c10⟩,-⟩:=HY.out
  go_wp2_with fail
  refine (iE.out _ HY.out.1).mono ?_
  rintro e' w3 ⟨rfl,hb⟩
  have HB:=Lib.hid ((HY.out.next hb).1)
  clear hb
  go_wp2_with fail
  go_ret
  exact ⟨rfl,HB.out⟩
 ·have HE:Hid (eH ⟨4,line,nm,arg,idx,bD,xn,bC,aL⟩=((iK 4++⟨#[32]⟩)++nm)++⟨#[32,123]⟩):=Lib.hid rfl
  rw [HE.out]
  clear HE HX
  obtain ⟨wd,dL⟩: ∃wd,Hid (iK 4=wd):=⟨_,Lib.hid rfl⟩
  have hwd:wd.size≤11:=by rw [← dL.out]; exact jC 4
  rw [dL.out]
  generalize bM bD xn bC aL=xt at *
  unfold dx
  dsimp only
  go_enter Tryz.func99,Tryz.ntmps99
  go_upto_region 1 with fail
  have HZ:=Lib.hid ((Sit.start w).gF (n:=w.heap.size) rfl (.int .i64 4) (.int .i64 line) (.string nm) (.string arg) (.slice s.dF (idx).len s.bT) (.int .i64 bD) (.int .i64 xn) (.string bC) (.slice s.bS aL.len s.bf) (.slice s.bG b.len s.aS) (.slice s.dw e.len s.bR) 89)
  generalize hW:World.alloc w _=W
  rw [hW] at HZ
  clear hW
  go_upto_region 2 with fail
  have HY:=Lib.hid (HZ.out.next (ah W (.cells #[.string ⟨#[]⟩,.string ⟨#[]⟩,.string ⟨#[105,102]⟩,.string ⟨#[119,104,105,108,101]⟩,.string ⟨#[108,111,99,107]⟩,.string ⟨#[114,101,97,100]⟩,.string ⟨#[119,114,105,116,101]⟩,.string ⟨#[116,114,97,110,115,97,99,116,105,111,110]⟩,.string ⟨#[97,116,111,109,105,99]⟩,.string ⟨#[119,97,105,116]⟩,.string ⟨#[110,111,116,105,102,121]⟩,.string ⟨#[110,111,116,105,102,121,97,108,108]⟩,.string ⟨#[115,112,97,119,110]⟩,.string ⟨#[106,111,105,110]⟩,.string ⟨#[115,101,116]⟩,.string ⟨#[103,101,116]⟩] 9)))
  have dM:=Lib.hid (heap_alloc_new W (.cells #[.string ⟨#[]⟩,.string ⟨#[]⟩,.string ⟨#[105,102]⟩,.string ⟨#[119,104,105,108,101]⟩,.string ⟨#[108,111,99,107]⟩,.string ⟨#[114,101,97,100]⟩,.string ⟨#[119,114,105,116,101]⟩,.string ⟨#[116,114,97,110,115,97,99,116,105,111,110]⟩,.string ⟨#[97,116,111,109,105,99]⟩,.string ⟨#[119,97,105,116]⟩,.string ⟨#[110,111,116,105,102,121]⟩,.string ⟨#[110,111,116,105,102,121,97,108,108]⟩,.string ⟨#[115,112,97,119,110]⟩,.string ⟨#[106,111,105,110]⟩,.string ⟨#[115,101,116]⟩,.string ⟨#[103,101,116]⟩] 9))
  generalize hW:World.alloc W _=W1
  rw [hW] at HY dM
  clear hW HZ
  have cw:W1.cell? ⟨W.heap.size,4,none⟩=some (.string wd):=by rw [← dL.out]; exact aG dM.out rfl
  obtain ⟨wb,hwb⟩: ∃g,W.heap.size=g:=⟨_,rfl⟩
  rw [hwb] at cw ⊢
  clear dM hwb
  obtain ⟨-,⟨-,c0⟩,⟨-,c1⟩,⟨-,c2⟩,⟨-,c3⟩,⟨-,c4⟩,⟨-,c5⟩,⟨-,c6⟩,⟨-,c7⟩,⟨-,c8⟩,⟨-,c9⟩,⟨-,c10⟩,-⟩:=HY.out
  go_wp2_with fail
  go_ret
  exact ⟨rfl,HY.out.1⟩
 ·have HE:Hid (eH ⟨5,line,nm,arg,idx,bD,xn,bC,aL⟩=((iK 5++⟨#[32]⟩)++nm)++⟨#[32,123]⟩):=Lib.hid rfl
  rw [HE.out]
  clear HE HX
  obtain ⟨wd,dL⟩: ∃wd,Hid (iK 5=wd):=⟨_,Lib.hid rfl⟩
  have hwd:wd.size≤11:=by rw [← dL.out]; exact jC 5
  rw [dL.out]
  generalize bM bD xn bC aL=xt at *
  unfold dx
  dsimp only
  go_enter Tryz.func99,Tryz.ntmps99
  go_upto_region 1 with fail
  have HZ:=Lib.hid ((Sit.start w).gF (n:=w.heap.size) rfl (.int .i64 5) (.int .i64 line) (.string nm) (.string arg) (.slice s.dF (idx).len s.bT) (.int .i64 bD) (.int .i64 xn) (.string bC) (.slice s.bS aL.len s.bf) (.slice s.bG b.len s.aS) (.slice s.dw e.len s.bR) 89)
  generalize hW:World.alloc w _=W
  rw [hW] at HZ
  clear hW
  go_upto_region 2 with fail
  have HY:=Lib.hid (HZ.out.next (ah W (.cells #[.string ⟨#[]⟩,.string ⟨#[]⟩,.string ⟨#[105,102]⟩,.string ⟨#[119,104,105,108,101]⟩,.string ⟨#[108,111,99,107]⟩,.string ⟨#[114,101,97,100]⟩,.string ⟨#[119,114,105,116,101]⟩,.string ⟨#[116,114,97,110,115,97,99,116,105,111,110]⟩,.string ⟨#[97,116,111,109,105,99]⟩,.string ⟨#[119,97,105,116]⟩,.string ⟨#[110,111,116,105,102,121]⟩,.string ⟨#[110,111,116,105,102,121,97,108,108]⟩,.string ⟨#[115,112,97,119,110]⟩,.string ⟨#[106,111,105,110]⟩,.string ⟨#[115,101,116]⟩,.string ⟨#[103,101,116]⟩] 9)))
  have dM:=Lib.hid (heap_alloc_new W (.cells #[.string ⟨#[]⟩,.string ⟨#[]⟩,.string ⟨#[105,102]⟩,.string ⟨#[119,104,105,108,101]⟩,.string ⟨#[108,111,99,107]⟩,.string ⟨#[114,101,97,100]⟩,.string ⟨#[119,114,105,116,101]⟩,.string ⟨#[116,114,97,110,115,97,99,116,105,111,110]⟩,.string ⟨#[97,116,111,109,105,99]⟩,.string ⟨#[119,97,105,116]⟩,.string ⟨#[110,111,116,105,102,121]⟩,.string ⟨#[110,111,116,105,102,121,97,108,108]⟩,.string ⟨#[115,112,97,119,110]⟩,.string ⟨#[106,111,105,110]⟩,.string ⟨#[115,101,116]⟩,.string ⟨#[103,101,116]⟩] 9))
  generalize hW:World.alloc W _=W1
  rw [hW] at HY dM
  clear hW HZ
  have cw:W1.cell? ⟨W.heap.size,5,none⟩=some (.string wd):=by rw [← dL.out]; exact aG dM.out rfl
  obtain ⟨wb,hwb⟩: ∃g,W.heap.size=g:=⟨_,rfl⟩
  rw [hwb] at cw ⊢
  clear dM hwb
  obtain ⟨-,⟨-,c0⟩,⟨-,c1⟩,⟨-,c2⟩,⟨-,c3⟩,⟨-,c4⟩,⟨-,c5⟩,⟨-,c6⟩,⟨-,c7⟩,⟨-,c8⟩,⟨-,c9⟩,⟨-,c10⟩,-⟩:=HY.out
  go_wp2_with fail
  go_ret
  exact ⟨rfl,HY.out.1⟩
 ·have HE:Hid (eH ⟨6,line,nm,arg,idx,bD,xn,bC,aL⟩=((iK 6++⟨#[32]⟩)++nm)++⟨#[32,123]⟩):=Lib.hid rfl
  rw [HE.out]
  clear HE HX
  obtain ⟨wd,dL⟩: ∃wd,Hid (iK 6=wd):=⟨_,Lib.hid rfl⟩
  have hwd:wd.size≤11:=by rw [← dL.out]; exact jC 6
  rw [dL.out]
  generalize bM bD xn bC aL=xt at *
  unfold dx
  dsimp only
  go_enter Tryz.func99,Tryz.ntmps99
  go_upto_region 1 with fail
  have HZ:=Lib.hid ((Sit.start w).gF (n:=w.heap.size) rfl (.int .i64 6) (.int .i64 line) (.string nm) (.string arg) (.slice s.dF (idx).len s.bT) (.int .i64 bD) (.int .i64 xn) (.string bC) (.slice s.bS aL.len s.bf) (.slice s.bG b.len s.aS) (.slice s.dw e.len s.bR) 89)
  generalize hW:World.alloc w _=W
  rw [hW] at HZ
  clear hW
  go_upto_region 2 with fail
  have HY:=Lib.hid (HZ.out.next (ah W (.cells #[.string ⟨#[]⟩,.string ⟨#[]⟩,.string ⟨#[105,102]⟩,.string ⟨#[119,104,105,108,101]⟩,.string ⟨#[108,111,99,107]⟩,.string ⟨#[114,101,97,100]⟩,.string ⟨#[119,114,105,116,101]⟩,.string ⟨#[116,114,97,110,115,97,99,116,105,111,110]⟩,.string ⟨#[97,116,111,109,105,99]⟩,.string ⟨#[119,97,105,116]⟩,.string ⟨#[110,111,116,105,102,121]⟩,.string ⟨#[110,111,116,105,102,121,97,108,108]⟩,.string ⟨#[115,112,97,119,110]⟩,.string ⟨#[106,111,105,110]⟩,.string ⟨#[115,101,116]⟩,.string ⟨#[103,101,116]⟩] 9)))
  have dM:=Lib.hid (heap_alloc_new W (.cells #[.string ⟨#[]⟩,.string ⟨#[]⟩,.string ⟨#[105,102]⟩,.string ⟨#[119,104,105,108,101]⟩,.string ⟨#[108,111,99,107]⟩,.string ⟨#[114,101,97,100]⟩,.string ⟨#[119,114,105,116,101]⟩,.string ⟨#[116,114,97,110,115,97,99,116,105,111,110]⟩,.string ⟨#[97,116,111,109,105,99]⟩,.string ⟨#[119,97,105,116]⟩,.string ⟨#[110,111,116,105,102,121]⟩,.string ⟨#[110,111,116,105,102,121,97,108,108]⟩,.string ⟨#[115,112,97,119,110]⟩,.string ⟨#[106,111,105,110]⟩,.string ⟨#[115,101,116]⟩,.string ⟨#[103,101,116]⟩] 9))
  generalize hW:World.alloc W _=W1
  rw [hW] at HY dM
  clear hW HZ
  have cw:W1.cell? ⟨W.heap.size,6,none⟩=some (.string wd):=by rw [← dL.out]; exact aG dM.out rfl
  obtain ⟨wb,hwb⟩: ∃g,W.heap.size=g:=⟨_,rfl⟩
  rw [hwb] at cw ⊢
  clear dM hwb
  obtain ⟨-,⟨-,c0⟩,⟨-,c1⟩,⟨-,c2⟩,⟨-,c3⟩,⟨-,c4⟩,⟨-,c5⟩,⟨-,c6⟩,⟨-,c7⟩,⟨-,c8⟩,⟨-,c9⟩,⟨-,c10⟩,-⟩:=HY.out
  go_wp2_with fail
  go_ret
  exact ⟨rfl,HY.out.1⟩
 ·have HE:Hid (eH ⟨7,line,nm,arg,idx,bD,xn,bC,aL⟩=iK 7++⟨#[32,123]⟩):=Lib.hid rfl
  rw [HE.out]
  clear HE HX
  obtain ⟨wd,dL⟩: ∃wd,Hid (iK 7=wd):=⟨_,Lib.hid rfl⟩
  have hwd:wd.size≤11:=by rw [← dL.out]; exact jC 7
  rw [dL.out]
  generalize bM bD xn bC aL=xt at *
  unfold dx
  dsimp only
  go_enter Tryz.func99,Tryz.ntmps99
  go_upto_region 1 with fail
  have HZ:=Lib.hid ((Sit.start w).gF (n:=w.heap.size) rfl (.int .i64 7) (.int .i64 line) (.string nm) (.string arg) (.slice s.dF (idx).len s.bT) (.int .i64 bD) (.int .i64 xn) (.string bC) (.slice s.bS aL.len s.bf) (.slice s.bG b.len s.aS) (.slice s.dw e.len s.bR) 89)
  generalize hW:World.alloc w _=W
  rw [hW] at HZ
  clear hW
  go_upto_region 2 with fail
  have HY:=Lib.hid (HZ.out.next (ah W (.cells #[.string ⟨#[]⟩,.string ⟨#[]⟩,.string ⟨#[105,102]⟩,.string ⟨#[119,104,105,108,101]⟩,.string ⟨#[108,111,99,107]⟩,.string ⟨#[114,101,97,100]⟩,.string ⟨#[119,114,105,116,101]⟩,.string ⟨#[116,114,97,110,115,97,99,116,105,111,110]⟩,.string ⟨#[97,116,111,109,105,99]⟩,.string ⟨#[119,97,105,116]⟩,.string ⟨#[110,111,116,105,102,121]⟩,.string ⟨#[110,111,116,105,102,121,97,108,108]⟩,.string ⟨#[115,112,97,119,110]⟩,.string ⟨#[106,111,105,110]⟩,.string ⟨#[115,101,116]⟩,.string ⟨#[103,101,116]⟩] 9)))
  have dM:=Lib.hid (heap_alloc_new W (.cells #[.string ⟨#[]⟩,.string ⟨#[]⟩,.string ⟨#[105,102]⟩,.string ⟨#[119,104,105,108,101]⟩,.string ⟨#[108,111,99,107]⟩,.string ⟨#[114,101,97,100]⟩,.string ⟨#[119,114,105,116,101]⟩,.string ⟨#[116,114,97,110,115,97,99,116,105,111,110]⟩,.string ⟨#[97,116,111,109,105,99]⟩,.string ⟨#[119,97,105,116]⟩,.string ⟨#[110,111,116,105,102,121]⟩,.string ⟨#[110,111,116,105,102,121,97,108,108]⟩,.string ⟨#[115,112,97,119,110]⟩,.string ⟨#[106,111,105,110]⟩,.string ⟨#[115,101,116]⟩,.string ⟨#[103,101,116]⟩] 9))
  generalize hW:World.alloc W _=W1
  rw [hW] at HY dM
  clear hW HZ
  have cw:W1.cell? ⟨W.heap.size,7,none⟩=some (.string wd):=by rw [← dL.out]; exact aG dM.out rfl
  obtain ⟨wb,hwb⟩: ∃g,W.heap.size=g:=⟨_,rfl⟩
  rw [hwb] at cw ⊢
  clear dM hwb
  obtain ⟨-,⟨-,c0⟩,⟨-,c1⟩,⟨-,c2⟩,⟨-,c3⟩,⟨-,c4⟩,⟨-,c5⟩,⟨-,c6⟩,⟨-,c7⟩,⟨-,c8⟩,⟨-,c9⟩,⟨-,c10⟩,-⟩:=HY.out
  go_wp2_with fail
  go_ret
  exact ⟨rfl,HY.out.1⟩
 ·have HE:Hid (eH ⟨8,line,nm,arg,idx,bD,xn,bC,aL⟩=iK 8++⟨#[32,123]⟩):=Lib.hid rfl
  rw [HE.out]
  clear HE HX
  obtain ⟨wd,dL⟩: ∃wd,Hid (iK 8=wd):=⟨_,Lib.hid rfl⟩
  have hwd:wd.size≤11:=by rw [← dL.out]; exact jC 8
  rw [dL.out]
  generalize bM bD xn bC aL=xt at *
  unfold dx
  dsimp only
  go_enter Tryz.func99,Tryz.ntmps99
  go_upto_region 1 with fail
  have HZ:=Lib.hid ((Sit.start w).gF (n:=w.heap.size) rfl (.int .i64 8) (.int .i64 line) (.string nm) (.string arg) (.slice s.dF (idx).len s.bT) (.int .i64 bD) (.int .i64 xn) (.string bC) (.slice s.bS aL.len s.bf) (.slice s.bG b.len s.aS) (.slice s.dw e.len s.bR) 89)
  generalize hW:World.alloc w _=W
  rw [hW] at HZ
  clear hW
  go_upto_region 2 with fail
  have HY:=Lib.hid (HZ.out.next (ah W (.cells #[.string ⟨#[]⟩,.string ⟨#[]⟩,.string ⟨#[105,102]⟩,.string ⟨#[119,104,105,108,101]⟩,.string ⟨#[108,111,99,107]⟩,.string ⟨#[114,101,97,100]⟩,.string ⟨#[119,114,105,116,101]⟩,.string ⟨#[116,114,97,110,115,97,99,116,105,111,110]⟩,.string ⟨#[97,116,111,109,105,99]⟩,.string ⟨#[119,97,105,116]⟩,.string ⟨#[110,111,116,105,102,121]⟩,.string ⟨#[110,111,116,105,102,121,97,108,108]⟩,.string ⟨#[115,112,97,119,110]⟩,.string ⟨#[106,111,105,110]⟩,.string ⟨#[115,101,116]⟩,.string ⟨#[103,101,116]⟩] 9)))
  have dM:=Lib.hid (heap_alloc_new W (.cells #[.string ⟨#[]⟩,.string ⟨#[]⟩,.string ⟨#[105,102]⟩,.string ⟨#[119,104,105,108,101]⟩,.string ⟨#[108,111,99,107]⟩,.string ⟨#[114,101,97,100]⟩,.string ⟨#[119,114,105,116,101]⟩,.string ⟨#[116,114,97,110,115,97,99,116,105,111,110]⟩,.string ⟨#[97,116,111,109,105,99]⟩,.string ⟨#[119,97,105,116]⟩,.string ⟨#[110,111,116,105,102,121]⟩,.string ⟨#[110,111,116,105,102,121,97,108,108]⟩,.string ⟨#[115,112,97,119,110]⟩,.string ⟨#[106,111,105,110]⟩,.string ⟨#[115,101,116]⟩,.string ⟨#[103,101,116]⟩] 9))
  generalize hW:World.alloc W _=W1
  rw [hW] at HY dM
  clear hW HZ
  have cw:W1.cell? ⟨W.heap.size,8,none⟩=some (.string wd):=by rw [← dL.out]; exact aG dM.out rfl
  obtain ⟨wb,hwb⟩: ∃g,W.heap.size=g:=⟨_,rfl⟩
  rw [hwb] at cw ⊢
  clear dM hwb
  obtain ⟨-,⟨-,c0⟩,⟨-,c1⟩,⟨-,c2⟩,⟨-,c3⟩,⟨-,c4⟩,⟨-,c5⟩,⟨-,c6⟩,⟨-,c7⟩,⟨-,c8⟩,⟨-,c9⟩,⟨-,c10⟩,-⟩:=HY.out
  go_wp2_with fail
  go_ret
  exact ⟨rfl,HY.out.1⟩
 ·have HE:Hid (eH ⟨9,line,nm,arg,idx,bD,xn,bC,aL⟩=((iK 9++⟨#[32]⟩)++nm)++⟨#[59]⟩):=Lib.hid rfl
  rw [HE.out]
  clear HE HX
  obtain ⟨wd,dL⟩: ∃wd,Hid (iK 9=wd):=⟨_,Lib.hid rfl⟩
  have hwd:wd.size≤11:=by rw [← dL.out]; exact jC 9
  rw [dL.out]
  generalize bM bD xn bC aL=xt at *
  unfold dx
  dsimp only
  go_enter Tryz.func99,Tryz.ntmps99
  go_upto_region 1 with fail
  have HZ:=Lib.hid ((Sit.start w).gF (n:=w.heap.size) rfl (.int .i64 9) (.int .i64 line) (.string nm) (.string arg) (.slice s.dF (idx).len s.bT) (.int .i64 bD) (.int .i64 xn) (.string bC) (.slice s.bS aL.len s.bf) (.slice s.bG b.len s.aS) (.slice s.dw e.len s.bR) 89)
  generalize hW:World.alloc w _=W
  rw [hW] at HZ
  clear hW
  go_upto_region 2 with fail
  have HY:=Lib.hid (HZ.out.next (ah W (.cells #[.string ⟨#[]⟩,.string ⟨#[]⟩,.string ⟨#[105,102]⟩,.string ⟨#[119,104,105,108,101]⟩,.string ⟨#[108,111,99,107]⟩,.string ⟨#[114,101,97,100]⟩,.string ⟨#[119,114,105,116,101]⟩,.string ⟨#[116,114,97,110,115,97,99,116,105,111,110]⟩,.string ⟨#[97,116,111,109,105,99]⟩,.string ⟨#[119,97,105,116]⟩,.string ⟨#[110,111,116,105,102,121]⟩,.string ⟨#[110,111,116,105,102,121,97,108,108]⟩,.string ⟨#[115,112,97,119,110]⟩,.string ⟨#[106,111,105,110]⟩,.string ⟨#[115,101,116]⟩,.string ⟨#[103,101,116]⟩] 9)))
  have dM:=Lib.hid (heap_alloc_new W (.cells #[.string ⟨#[]⟩,.string ⟨#[]⟩,.string ⟨#[105,102]⟩,.string ⟨#[119,104,105,108,101]⟩,.string ⟨#[108,111,99,107]⟩,.string ⟨#[114,101,97,100]⟩,.string ⟨#[119,114,105,116,101]⟩,.string ⟨#[116,114,97,110,115,97,99,116,105,111,110]⟩,.string ⟨#[97,116,111,109,105,99]⟩,.string ⟨#[119,97,105,116]⟩,.string ⟨#[110,111,116,105,102,121]⟩,.string ⟨#[110,111,116,105,102,121,97,108,108]⟩,.string ⟨#[115,112,97,119,110]⟩,.string ⟨#[106,111,105,110]⟩,.string ⟨#[115,101,116]⟩,.string ⟨#[103,101,116]⟩] 9))
  generalize hW:World.alloc W _=W1
  rw [hW] at HY dM
  clear hW HZ
  have cw:W1.cell? ⟨W.heap.size,9,none⟩=some (.string wd):=by rw [← dL.out]; exact aG dM.out rfl
  obtain ⟨wb,hwb⟩: ∃g,W.heap.size=g:=⟨_,rfl⟩
  rw [hwb] at cw ⊢
  clear dM hwb
  obtain ⟨-,⟨-,c0⟩,⟨-,c1⟩,⟨-,c2⟩,⟨-,c3⟩,⟨-,c4⟩,⟨-,c5⟩,⟨-,c6⟩,⟨-,c7⟩,⟨-,c8⟩,⟨-,c9⟩,⟨-,c10⟩,-⟩:=HY.out
  go_wp2_with fail
  go_ret
  exact ⟨rfl,HY.out.1⟩
 ·have HE:Hid (eH ⟨10,line,nm,arg,idx,bD,xn,bC,aL⟩=((iK 10++⟨#[32]⟩)++nm)++⟨#[59]⟩):=Lib.hid rfl
  rw [HE.out]
  clear HE HX
  obtain ⟨wd,dL⟩: ∃wd,Hid (iK 10=wd):=⟨_,Lib.hid rfl⟩
  have hwd:wd.size≤11:=by rw [← dL.out]; exact jC 10
  rw [dL.out]
  generalize bM bD xn bC aL=xt at *
  unfold dx
  dsimp only
  go_enter Tryz.func99,Tryz.ntmps99
  go_upto_region 1 with fail
  have HZ:=Lib.hid ((Sit.start w).gF (n:=w.heap.size) rfl (.int .i64 10) (.int .i64 line) (.string nm) (.string arg) (.slice s.dF (idx).len s.bT) (.int .i64 bD) (.int .i64 xn) (.string bC) (.slice s.bS aL.len s.bf) (.slice s.bG b.len s.aS) (.slice s.dw e.len s.bR) 89)
  generalize hW:World.alloc w _=W
  rw [hW] at HZ
  clear hW
  go_upto_region 2 with fail
  have HY:=Lib.hid (HZ.out.next (ah W (.cells #[.string ⟨#[]⟩,.string ⟨#[]⟩,.string ⟨#[105,102]⟩,.string ⟨#[119,104,105,108,101]⟩,.string ⟨#[108,111,99,107]⟩,.string ⟨#[114,101,97,100]⟩,.string ⟨#[119,114,105,116,101]⟩,.string ⟨#[116,114,97,110,115,97,99,116,105,111,110]⟩,.string ⟨#[97,116,111,109,105,99]⟩,.string ⟨#[119,97,105,116]⟩,.string ⟨#[110,111,116,105,102,121]⟩,.string ⟨#[110,111,116,105,102,121,97,108,108]⟩,.string ⟨#[115,112,97,119,110]⟩,.string ⟨#[106,111,105,110]⟩,.string ⟨#[115,101,116]⟩,.string ⟨#[103,101,116]⟩] 9)))
  have dM:=Lib.hid (heap_alloc_new W (.cells #[.string ⟨#[]⟩,.string ⟨#[]⟩,.string ⟨#[105,102]⟩,.string ⟨#[119,104,105,108,101]⟩,.string ⟨#[108,111,99,107]⟩,.string ⟨#[114,101,97,100]⟩,.string ⟨#[119,114,105,116,101]⟩,.string ⟨#[116,114,97,110,115,97,99,116,105,111,110]⟩,.string ⟨#[97,116,111,109,105,99]⟩,.string ⟨#[119,97,105,116]⟩,.string ⟨#[110,111,116,105,102,121]⟩,.string ⟨#[110,111,116,105,102,121,97,108,108]⟩,.string ⟨#[115,112,97,119,110]⟩,.string ⟨#[106,111,105,110]⟩,.string ⟨#[115,101,116]⟩,.string ⟨#[103,101,116]⟩] 9))
  generalize hW:World.alloc W _=W1
  rw [hW] at HY dM
  clear hW HZ
  have cw:W1.cell? ⟨W.heap.size,10,none⟩=some (.string wd):=by rw [← dL.out]; exact aG dM.out rfl
  obtain ⟨wb,hwb⟩: ∃g,W.heap.size=g:=⟨_,rfl⟩
  rw [hwb] at cw ⊢
  clear dM hwb
  obtain ⟨-,⟨-,c0⟩,⟨-,c1⟩,⟨-,c2⟩,⟨-,c3⟩,⟨-,c4⟩,⟨-,c5⟩,⟨-,c6⟩,⟨-,c7⟩,⟨-,c8⟩,⟨-,c9⟩,⟨-,c10⟩,-⟩:=HY.out
  go_wp2_with fail
  go_ret
  exact ⟨rfl,HY.out.1⟩
 ·have HE:Hid (eH ⟨11,line,nm,arg,idx,bD,xn,bC,aL⟩=((iK 11++⟨#[32]⟩)++nm)++⟨#[59]⟩):=Lib.hid rfl
  rw [HE.out]
  clear HE HX
  obtain ⟨wd,dL⟩: ∃wd,Hid (iK 11=wd):=⟨_,Lib.hid rfl⟩
  have hwd:wd.size≤11:=by rw [← dL.out]; exact jC 11
  rw [dL.out]
  generalize bM bD xn bC aL=xt at *
  unfold dx
  dsimp only
  go_enter Tryz.func99,Tryz.ntmps99
  go_upto_region 1 with fail
  have HZ:=Lib.hid ((Sit.start w).gF (n:=w.heap.size) rfl (.int .i64 11) (.int .i64 line) (.string nm) (.string arg) (.slice s.dF (idx).len s.bT) (.int .i64 bD) (.int .i64 xn) (.string bC) (.slice s.bS aL.len s.bf) (.slice s.bG b.len s.aS) (.slice s.dw e.len s.bR) 89)
  generalize hW:World.alloc w _=W
  rw [hW] at HZ
  clear hW
  go_upto_region 2 with fail
  have HY:=Lib.hid (HZ.out.next (ah W (.cells #[.string ⟨#[]⟩,.string ⟨#[]⟩,.string ⟨#[105,102]⟩,.string ⟨#[119,104,105,108,101]⟩,.string ⟨#[108,111,99,107]⟩,.string ⟨#[114,101,97,100]⟩,.string ⟨#[119,114,105,116,101]⟩,.string ⟨#[116,114,97,110,115,97,99,116,105,111,110]⟩,.string ⟨#[97,116,111,109,105,99]⟩,.string ⟨#[119,97,105,116]⟩,.string ⟨#[110,111,116,105,102,121]⟩,.string ⟨#[110,111,116,105,102,121,97,108,108]⟩,.string ⟨#[115,112,97,119,110]⟩,.string ⟨#[106,111,105,110]⟩,.string ⟨#[115,101,116]⟩,.string ⟨#[103,101,116]⟩] 9)))
  have dM:=Lib.hid (heap_alloc_new W (.cells #[.string ⟨#[]⟩,.string ⟨#[]⟩,.string ⟨#[105,102]⟩,.string ⟨#[119,104,105,108,101]⟩,.string ⟨#[108,111,99,107]⟩,.string ⟨#[114,101,97,100]⟩,.string ⟨#[119,114,105,116,101]⟩,.string ⟨#[116,114,97,110,115,97,99,116,105,111,110]⟩,.string ⟨#[97,116,111,109,105,99]⟩,.string ⟨#[119,97,105,116]⟩,.string ⟨#[110,111,116,105,102,121]⟩,.string ⟨#[110,111,116,105,102,121,97,108,108]⟩,.string ⟨#[115,112,97,119,110]⟩,.string ⟨#[106,111,105,110]⟩,.string ⟨#[115,101,116]⟩,.string ⟨#[103,101,116]⟩] 9))
  generalize hW:World.alloc W _=W1
  rw [hW] at HY dM
  clear hW HZ
  have cw:W1.cell? ⟨W.heap.size,11,none⟩=some (.string wd):=by rw [← dL.out]; exact aG dM.out rfl
  obtain ⟨wb,hwb⟩: ∃g,W.heap.size=g:=⟨_,rfl⟩
  rw [hwb] at cw ⊢
  clear dM hwb
  obtain ⟨-,⟨-,c0⟩,⟨-,c1⟩,⟨-,c2⟩,⟨-,c3⟩,⟨-,c4⟩,⟨-,c5⟩,⟨-,c6⟩,⟨-,c7⟩,⟨-,c8⟩,⟨-,c9⟩,⟨-,c10⟩,-⟩:=HY.out
  go_wp2_with fail
  go_ret
  exact ⟨rfl,HY.out.1⟩
 ·have HE:Hid (eH ⟨12,line,nm,arg,idx,bD,xn,bC,aL⟩=((iK 12++⟨#[32]⟩)++nm)++⟨#[59]⟩):=Lib.hid rfl
  rw [HE.out]
  clear HE HX
  obtain ⟨wd,dL⟩: ∃wd,Hid (iK 12=wd):=⟨_,Lib.hid rfl⟩
  have hwd:wd.size≤11:=by rw [← dL.out]; exact jC 12
  rw [dL.out]
  generalize bM bD xn bC aL=xt at *
  unfold dx
  dsimp only
  go_enter Tryz.func99,Tryz.ntmps99
  go_upto_region 1 with fail
  have HZ:=Lib.hid ((Sit.start w).gF (n:=w.heap.size) rfl (.int .i64 12) (.int .i64 line) (.string nm) (.string arg) (.slice s.dF (idx).len s.bT) (.int .i64 bD) (.int .i64 xn) (.string bC) (.slice s.bS aL.len s.bf) (.slice s.bG b.len s.aS) (.slice s.dw e.len s.bR) 89)
  generalize hW:World.alloc w _=W
  rw [hW] at HZ
  clear hW
  go_upto_region 2 with fail
  have HY:=Lib.hid (HZ.out.next (ah W (.cells #[.string ⟨#[]⟩,.string ⟨#[]⟩,.string ⟨#[105,102]⟩,.string ⟨#[119,104,105,108,101]⟩,.string ⟨#[108,111,99,107]⟩,.string ⟨#[114,101,97,100]⟩,.string ⟨#[119,114,105,116,101]⟩,.string ⟨#[116,114,97,110,115,97,99,116,105,111,110]⟩,.string ⟨#[97,116,111,109,105,99]⟩,.string ⟨#[119,97,105,116]⟩,.string ⟨#[110,111,116,105,102,121]⟩,.string ⟨#[110,111,116,105,102,121,97,108,108]⟩,.string ⟨#[115,112,97,119,110]⟩,.string ⟨#[106,111,105,110]⟩,.string ⟨#[115,101,116]⟩,.string ⟨#[103,101,116]⟩] 9)))
  have dM:=Lib.hid (heap_alloc_new W (.cells #[.string ⟨#[]⟩,.string ⟨#[]⟩,.string ⟨#[105,102]⟩,.string ⟨#[119,104,105,108,101]⟩,.string ⟨#[108,111,99,107]⟩,.string ⟨#[114,101,97,100]⟩,.string ⟨#[119,114,105,116,101]⟩,.string ⟨#[116,114,97,110,115,97,99,116,105,111,110]⟩,.string ⟨#[97,116,111,109,105,99]⟩,.string ⟨#[119,97,105,116]⟩,.string ⟨#[110,111,116,105,102,121]⟩,.string ⟨#[110,111,116,105,102,121,97,108,108]⟩,.string ⟨#[115,112,97,119,110]⟩,.string ⟨#[106,111,105,110]⟩,.string ⟨#[115,101,116]⟩,.string ⟨#[103,101,116]⟩] 9))
  generalize hW:World.alloc W _=W1
  rw [hW] at HY dM
  clear hW HZ
  have cw:W1.cell? ⟨W.heap.size,12,none⟩=some (.string wd):=by rw [← dL.out]; exact aG dM.out rfl
  obtain ⟨wb,hwb⟩: ∃g,W.heap.size=g:=⟨_,rfl⟩
  rw [hwb] at cw ⊢
  clear dM hwb
  obtain ⟨-,⟨-,c0⟩,⟨-,c1⟩,⟨-,c2⟩,⟨-,c3⟩,⟨-,c4⟩,⟨-,c5⟩,⟨-,c6⟩,⟨-,c7⟩,⟨-,c8⟩,⟨-,c9⟩,⟨-,c10⟩,-⟩:=HY.out
  go_wp2_with fail
  go_ret
  exact ⟨rfl,HY.out.1⟩
 ·have HE:Hid (eH ⟨13,line,nm,arg,idx,bD,xn,bC,aL⟩=((iK 13++⟨#[32]⟩)++nm)++⟨#[59]⟩):=Lib.hid rfl
  rw [HE.out]
  clear HE HX
  obtain ⟨wd,dL⟩: ∃wd,Hid (iK 13=wd):=⟨_,Lib.hid rfl⟩
  have hwd:wd.size≤11:=by rw [← dL.out]; exact jC 13
  rw [dL.out]
  generalize bM bD xn bC aL=xt at *
  unfold dx
  dsimp only
  go_enter Tryz.func99,Tryz.ntmps99
  go_upto_region 1 with fail
  have HZ:=Lib.hid ((Sit.start w).gF (n:=w.heap.size) rfl (.int .i64 13) (.int .i64 line) (.string nm) (.string arg) (.slice s.dF (idx).len s.bT) (.int .i64 bD) (.int .i64 xn) (.string bC) (.slice s.bS aL.len s.bf) (.slice s.bG b.len s.aS) (.slice s.dw e.len s.bR) 89)
  generalize hW:World.alloc w _=W
  rw [hW] at HZ
  clear hW
  go_upto_region 2 with fail
  have HY:=Lib.hid (HZ.out.next (ah W (.cells #[.string ⟨#[]⟩,.string ⟨#[]⟩,.string ⟨#[105,102]⟩,.string ⟨#[119,104,105,108,101]⟩,.string ⟨#[108,111,99,107]⟩,.string ⟨#[114,101,97,100]⟩,.string ⟨#[119,114,105,116,101]⟩,.string ⟨#[116,114,97,110,115,97,99,116,105,111,110]⟩,.string ⟨#[97,116,111,109,105,99]⟩,.string ⟨#[119,97,105,116]⟩,.string ⟨#[110,111,116,105,102,121]⟩,.string ⟨#[110,111,116,105,102,121,97,108,108]⟩,.string ⟨#[115,112,97,119,110]⟩,.string ⟨#[106,111,105,110]⟩,.string ⟨#[115,101,116]⟩,.string ⟨#[103,101,116]⟩] 9)))
  have dM:=Lib.hid (heap_alloc_new W (.cells #[.string ⟨#[]⟩,.string ⟨#[]⟩,.string ⟨#[105,102]⟩,.string ⟨#[119,104,105,108,101]⟩,.string ⟨#[108,111,99,107]⟩,.string ⟨#[114,101,97,100]⟩,.string ⟨#[119,114,105,116,101]⟩,.string ⟨#[116,114,97,110,115,97,99,116,105,111,110]⟩,.string ⟨#[97,116,111,109,105,99]⟩,.string ⟨#[119,97,105,116]⟩,.string ⟨#[110,111,116,105,102,121]⟩,.string ⟨#[110,111,116,105,102,121,97,108,108]⟩,.string ⟨#[115,112,97,119,110]⟩,.string ⟨#[106,111,105,110]⟩,.string ⟨#[115,101,116]⟩,.string ⟨#[103,101,116]⟩] 9))
  generalize hW:World.alloc W _=W1
  rw [hW] at HY dM
  clear hW HZ
  have cw:W1.cell? ⟨W.heap.size,13,none⟩=some (.string wd):=by rw [← dL.out]; exact aG dM.out rfl
  obtain ⟨wb,hwb⟩: ∃g,W.heap.size=g:=⟨_,rfl⟩
  rw [hwb] at cw ⊢
  clear dM hwb
  obtain ⟨-,⟨-,c0⟩,⟨-,c1⟩,⟨-,c2⟩,⟨-,c3⟩,⟨-,c4⟩,⟨-,c5⟩,⟨-,c6⟩,⟨-,c7⟩,⟨-,c8⟩,⟨-,c9⟩,⟨-,c10⟩,-⟩:=HY.out
  go_wp2_with fail
  go_ret
  exact ⟨rfl,HY.out.1⟩
 ·have iE:=Lib.hid (HX.out rfl)
  have HE:Hid (eH ⟨14,line,nm,arg,idx,bD,xn,bC,aL⟩=((((iK 14++⟨#[32]⟩)++nm)++⟨#[32]⟩)++bM bD xn bC aL)++⟨#[59]⟩):=Lib.hid rfl
  rw [HE.out]
  clear HE HX
  have hxz:=Ni.out
  obtain ⟨wd,dL⟩: ∃wd,Hid (iK 14=wd):=⟨_,Lib.hid rfl⟩
  have hwd:wd.size≤11:=by rw [← dL.out]; exact jC 14
  rw [dL.out]
  generalize bM bD xn bC aL=xt at *
  unfold dx
  dsimp only
  go_enter Tryz.func99,Tryz.ntmps99
  go_upto_region 1 with fail
  have HZ:=Lib.hid ((Sit.start w).gF (n:=w.heap.size) rfl (.int .i64 14) (.int .i64 line) (.string nm) (.string arg) (.slice s.dF (idx).len s.bT) (.int .i64 bD) (.int .i64 xn) (.string bC) (.slice s.bS aL.len s.bf) (.slice s.bG b.len s.aS) (.slice s.dw e.len s.bR) 89)
  generalize hW:World.alloc w _=W
  rw [hW] at HZ
  clear hW
  go_upto_region 2 with fail
  have HY:=Lib.hid (HZ.out.next (ah W (.cells #[.string ⟨#[]⟩,.string ⟨#[]⟩,.string ⟨#[105,102]⟩,.string ⟨#[119,104,105,108,101]⟩,.string ⟨#[108,111,99,107]⟩,.string ⟨#[114,101,97,100]⟩,.string ⟨#[119,114,105,116,101]⟩,.string ⟨#[116,114,97,110,115,97,99,116,105,111,110]⟩,.string ⟨#[97,116,111,109,105,99]⟩,.string ⟨#[119,97,105,116]⟩,.string ⟨#[110,111,116,105,102,121]⟩,.string ⟨#[110,111,116,105,102,121,97,108,108]⟩,.string ⟨#[115,112,97,119,110]⟩,.string ⟨#[106,111,105,110]⟩,.string ⟨#[115,101,116]⟩,.string ⟨#[103,101,116]⟩] 9)))
  have dM:=Lib.hid (heap_alloc_new W (.cells #[.string ⟨#[]⟩,.string ⟨#[]⟩,.string ⟨#[105,102]⟩,.string ⟨#[119,104,105,108,101]⟩,.string ⟨#[108,111,99,107]⟩,.string ⟨#[114,101,97,100]⟩,.string ⟨#[119,114,105,116,101]⟩,.string ⟨#[116,114,97,110,115,97,99,116,105,111,110]⟩,.string ⟨#[97,116,111,109,105,99]⟩,.string ⟨#[119,97,105,116]⟩,.string ⟨#[110,111,116,105,102,121]⟩,.string ⟨#[110,111,116,105,102,121,97,108,108]⟩,.string ⟨#[115,112,97,119,110]⟩,.string ⟨#[106,111,105,110]⟩,.string ⟨#[115,101,116]⟩,.string ⟨#[103,101,116]⟩] 9))
  generalize hW:World.alloc W _=W1
  rw [hW] at HY dM
  clear hW HZ
  have cw:W1.cell? ⟨W.heap.size,14,none⟩=some (.string wd):=by rw [← dL.out]; exact aG dM.out rfl
  obtain ⟨wb,hwb⟩: ∃g,W.heap.size=g:=⟨_,rfl⟩
  rw [hwb] at cw ⊢
  clear dM hwb
  obtain ⟨-,⟨-,c0⟩,⟨-,c1⟩,⟨-,c2⟩,⟨-,c3⟩,⟨-,c4⟩,⟨-,c5⟩,⟨-,c6⟩,⟨-,c7⟩,⟨-,c8⟩,⟨-,c9⟩,⟨-,c10⟩,-⟩:=HY.out
  go_upto_region 20 with fail
  obtain ⟨T,F,yO,hst,hF,hnext⟩:=calm W1
  have HF:=Lib.hid hF
  have fZ:=Lib.hid hnext
  clear hnext hF
  have d0:=fun x=>(HY.out.next (HF.out x)).2.1.2
  have d1:=fun x=>(HY.out.next (HF.out x)).2.2.1.2
  have d2:=fun x=>(HY.out.next (HF.out x)).2.2.2.1.2
  have d3:=fun x=>(HY.out.next (HF.out x)).2.2.2.2.1.2
  have d4:=fun x=>(HY.out.next (HF.out x)).2.2.2.2.2.1.2
  have d5:=fun x=>(HY.out.next (HF.out x)).2.2.2.2.2.2.1.2
  have d6:=fun x=>(HY.out.next (HF.out x)).2.2.2.2.2.2.2.1.2
  have d7:=fun x=>(HY.out.next (HF.out x)).2.2.2.2.2.2.2.2.1.2
  have d8:=fun x=>(HY.out.next (HF.out x)).2.2.2.2.2.2.2.2.2.1.2
  have d9:=fun x=>(HY.out.next (HF.out x)).2.2.2.2.2.2.2.2.2.2.1.2
  have mh:=fun x=>(HY.out.next (HF.out x)).2.2.2.2.2.2.2.2.2.2.2.1.2
  clear c0 c1 c2 c3 c4 c5 c6 c7 c8 c9 c10
  refine iZ F (by kernel_rfl) (by kernel_rfl) hst ?_
  repeat (any_goals (first | go_big_quiet_step ((go_at_call 19; refine (iE.out _ (HY.out.1.trans ((HF.out _).mono HY.out.1.size))).mono ?_; rintro e' w' ⟨rfl,hb⟩; exact ⟨rfl,fZ.out _ _ hb⟩)) | (refine wpQuiet_step (fun K hK=> ?_); go_simp; first | (refine hK _ ?_; clear hK K) | (split <;> first | (refine hK _ ?_; clear hK K) | (apply Exists.intro; refine ⟨fun _=> ?_,hK _ ?_⟩; ((go_at_call 19; refine (iE.out _ (HY.out.1.trans ((HF.out _).mono HY.out.1.size))).mono ?_; rintro e' w' ⟨rfl,hb⟩; exact ⟨rfl,fZ.out _ _ hb⟩)); clear hK K)))))
  all_goals (refine wpQuiet_nil ?_; rintro _ ⟨x,rfl⟩)
  have HB:=Lib.hid (HY.out.1.trans ((HF.out x).mono HY.out.1.size))
  clear d0 d1 d2 d3 d4 d5 d6 d7 d8 d9 mh HF fZ hst
  generalize F x=W3 at *
  go_wp2_with fail
  go_ret
  exact ⟨rfl,HB.out⟩
 ·have HE:Hid (eH ⟨15,line,nm,arg,idx,bD,xn,bC,aL⟩=((((iK 15++⟨#[32]⟩)++nm)++⟨#[32]⟩)++arg)++⟨#[59]⟩):=Lib.hid rfl
  rw [HE.out]
  clear HE HX
  obtain ⟨wd,dL⟩: ∃wd,Hid (iK 15=wd):=⟨_,Lib.hid rfl⟩
  have hwd:wd.size≤11:=by rw [← dL.out]; exact jC 15
  rw [dL.out]
  generalize bM bD xn bC aL=xt at *
  unfold dx
  dsimp only
  go_enter Tryz.func99,Tryz.ntmps99
  go_upto_region 1 with fail
  have HZ:=Lib.hid ((Sit.start w).gF (n:=w.heap.size) rfl (.int .i64 15) (.int .i64 line) (.string nm) (.string arg) (.slice s.dF (idx).len s.bT) (.int .i64 bD) (.int .i64 xn) (.string bC) (.slice s.bS aL.len s.bf) (.slice s.bG b.len s.aS) (.slice s.dw e.len s.bR) 89)
  generalize hW:World.alloc w _=W
  rw [hW] at HZ
  clear hW
  go_upto_region 2 with fail
  have HY:=Lib.hid (HZ.out.next (ah W (.cells #[.string ⟨#[]⟩,.string ⟨#[]⟩,.string ⟨#[105,102]⟩,.string ⟨#[119,104,105,108,101]⟩,.string ⟨#[108,111,99,107]⟩,.string ⟨#[114,101,97,100]⟩,.string ⟨#[119,114,105,116,101]⟩,.string ⟨#[116,114,97,110,115,97,99,116,105,111,110]⟩,.string ⟨#[97,116,111,109,105,99]⟩,.string ⟨#[119,97,105,116]⟩,.string ⟨#[110,111,116,105,102,121]⟩,.string ⟨#[110,111,116,105,102,121,97,108,108]⟩,.string ⟨#[115,112,97,119,110]⟩,.string ⟨#[106,111,105,110]⟩,.string ⟨#[115,101,116]⟩,.string ⟨#[103,101,116]⟩] 9)))
  have dM:=Lib.hid (heap_alloc_new W (.cells #[.string ⟨#[]⟩,.string ⟨#[]⟩,.string ⟨#[105,102]⟩,.string ⟨#[119,104,105,108,101]⟩,.string ⟨#[108,111,99,107]⟩,.string ⟨#[114,101,97,100]⟩,.string ⟨#[119,114,105,116,101]⟩,.string ⟨#[116,114,97,110,115,97,99,116,105,111,110]⟩,.string ⟨#[97,116,111,109,105,99]⟩,.string ⟨#[119,97,105,116]⟩,.string ⟨#[110,111,116,105,102,121]⟩,.string ⟨#[110,111,116,105,102,121,97,108,108]⟩,.string ⟨#[115,112,97,119,110]⟩,.string ⟨#[106,111,105,110]⟩,.string ⟨#[115,101,116]⟩,.string ⟨#[103,101,116]⟩] 9))
  generalize hW:World.alloc W _=W1
  rw [hW] at HY dM
  clear hW HZ
  have cw:W1.cell? ⟨W.heap.size,15,none⟩=some (.string wd):=by rw [← dL.out]; exact aG dM.out rfl
  obtain ⟨wb,hwb⟩: ∃g,W.heap.size=g:=⟨_,rfl⟩
  rw [hwb] at cw ⊢
  clear dM hwb
  obtain ⟨-,⟨-,c0⟩,⟨-,c1⟩,⟨-,c2⟩,⟨-,c3⟩,⟨-,c4⟩,⟨-,c5⟩,⟨-,c6⟩,⟨-,c7⟩,⟨-,c8⟩,⟨-,c9⟩,⟨-,c10⟩,-⟩:=HY.out
  go_wp2_with fail
  go_ret
  exact ⟨rfl,HY.out.1⟩
end Go.Proofs.YtehnipchbmjlhaaGreatDoor
end
section
namespace Go.Proofs.YtehnipchbmjlhaaGreatDoor
open Go.RowKit
open Md Fm
def iC:aN→Nat
 | .nil=>0
 | .cons _ b e r=>1 + iC b + iC e + iC r
theorem vC: ∀l:aN,200 * iC l≤jr l
 | .nil=>Nat.le_refl _
 | .cons h b e r=>by
   have h1:=vC b
   have h2:=vC e
   have h3:=vC r
   have h4:200≤vE h:=by unfold vE; omega
   simp only [iC,jr]; omega
theorem Ua {w:World} {B:Nat} (h:aV) {ao:Option Addr} (hi:h.idx.At w B ao 0):(XT h).size≤qR h.idx + 2:=by
 unfold XT
 cases hx:h.idx with
 | nil=>exact Nat.zero_le _
 | cons op n nm kids r=>
   rw [hx] at hi
   obtain ⟨⟨b,off,gQ,cap,e,hB,c0,c1,c2,c3,hok,hk⟩,hr⟩:=hi
   have:=kF op n nm hok.2.1 hk
   unfold lI at this
   dsimp only
   simp only [ByteArray.size_append,qR]; rw [show (⟨#[91]⟩:ByteArray).size=1 from rfl,show (⟨#[93]⟩:ByteArray).size=1 from rfl]; omega
theorem head_size {w:World} {B:Nat} (h:aV) {ao gQ:Option Addr} (hi:h.idx.At w B ao 0) (hn:aU h.xn) (hk:h.aL.At w B gQ 0):(eH h).size + 100≤vE h:=by
 have h1:=Ua h hi
 have h2:(xB h).size≤lI h.bC h.aL:=kF _ _ _ hn hk
 have h3:=jC h.op
 have e1:(⟨#[32,61,32]⟩:ByteArray).size=3:=rfl
 have e2:(⟨#[59]⟩:ByteArray).size=1:=rfl
 have e3:(⟨#[32]⟩:ByteArray).size=1:=rfl
 have e4:(⟨#[32,123]⟩:ByteArray).size=2:=rfl
 unfold eH vE
 split
 ·simp only [ByteArray.size_append,e1,e2]; omega
 ·split
  ·simp only [ByteArray.size_append,e3,e4]; omega
  ·split
   ·simp only [ByteArray.size_append,e3,e4]; omega
   ·split
    ·simp only [ByteArray.size_append,e4]; omega
    ·split
     ·simp only [ByteArray.size_append,e2,e3]; omega
     ·split
      ·simp only [ByteArray.size_append,e2,e3]; omega
      ·simp only [ByteArray.size_append,e2,e3]; omega
theorem Rf (d:Nat) (h:aV) (b e:ByteArray) (ne:Bool):(FH d h b e ne).size≤6 * d + (eH h).size + b.size + e.size + 20:=by
 have e1:(⟨#[10]⟩:ByteArray).size=1:=rfl
 have e2:(⟨#[125,10]⟩:ByteArray).size=2:=rfl
 have e3:NM.size=9:=rfl
 unfold FH
 split
 ·exact Nat.zero_le _
 ·split
  ·simp only [ByteArray.size_append,uD,e1]; omega
  ·split
   ·simp only [ByteArray.size_append,uD,e1,e2]; omega
   ·simp only [ByteArray.size_append,uD,e1,e2,e3]; omega
theorem xJ {w:World} {B:Nat} : ∀ {l:aN} {ao:Option Addr} {k:Nat} (d:Nat),l.At w B ao k→(jT l d).size≤jr l + 6 * d * iC l
 | .nil,_,_,_,_=>Nat.zero_le _
 | .cons h b e r,ao,k,d,hat=>by
   obtain ⟨⟨bl,off,dF,bT,bS,bf,bG,aS,dw,bR,eq,hB,c0,c1,c2,c3,c4,c5,c6,c7,c8,c9,c10,hok,h1,h2,h3,h4⟩,hr⟩:=hat
   have s1:=xJ (d + 1) h3
   have s2:=xJ (d + 1) h4
   have s3:=xJ d hr
   have s4:=head_size h h1 hok.2.2.2.2.2.1.2.1 h2
   have s5:=Rf d h (jT b (d + 1)) (jT e (d + 1)) (iB e)
   have k1:=vC b
   have k2:=vC e
   have m1:6 * (d + 1) * iC b=6 * d * iC b + 6 * iC b:=by rw [Nat.mul_add,Nat.add_mul]
   have m2:6 * (d + 1) * iC e=6 * d * iC e + 6 * iC e:=by rw [Nat.mul_add,Nat.add_mul]
   have m3:6 * d * (1 + iC b + iC e + iC r)=6 * d + 6 * d * iC b + 6 * d * iC e + 6 * d * iC r:=by rw [Nat.mul_add,Nat.mul_add,Nat.mul_add,Nat.mul_one]
   simp only [jT,iC,jr,ByteArray.size_append]
   rw [m3]
   omega
end Go.Proofs.YtehnipchbmjlhaaGreatDoor
end
section
namespace Go.Proofs.YtehnipchbmjlhaaGreatDoor
open Go.RowKit
open Md Fm
def Ak (h:aV) (b e:aN):Prop:=
 ∀(w:World) (s:Sl) (d:Nat),nG w h b e s→tH h b e=true→2 ^ d * (vE h + 2 * jr b + 2 * jr e)≤2 ^ 50→jU w→
  Calls Tryz.prog 61 #[dx h b e s,.int .i64 (d:Int)] w fun e' w'=>e'= .returned (.string (MS d h b e))∧Below w.heap.size w w'
def Oo (l:aN):Prop:=
 ∀(w:World) (ao:Option Addr) (cap d:Nat),l.len≤maxLen→fK l=true→2 ^ d * jr l≤2 ^ 50→l.At w w.heap.size ao 0→jU w→
  Calls Tryz.prog 31 #[.slice ao l.len cap,.int .i64 (d:Int)] w fun e' w'=>e'= .returned (.string (jT l d))∧Below w.heap.size w w'
theorem VY {d q:Nat} (hq:1≤q) (h:2 ^ d * q≤2 ^ 50):d≤50:=by
 have h1:2 ^ d≤2 ^ 50:=Nat.le_trans (Nat.le_mul_of_pos_right _ hq) h
 exact (Nat.pow_le_pow_iff_right (by decide)).1 h1
theorem Wp {d q:Nat} (h:2 ^ d * q≤2 ^ 50):q≤1125899906842624:=by
 have h1:0 < 2 ^ d:=Nat.pow_pos (by decide)
 have h2:q≤2 ^ d * q:=Nat.le_mul_of_pos_left _ h1
 have h3:(2:Nat) ^ 50=1125899906842624:=by decide
 omega
theorem UG {h:aV} {b e r:aN} :1≤jr (.cons h b e r):=by
 simp only [jr,vE]; omega
theorem LK {w:World} {B:Nat} {l:aN} {ao:Option Addr} {k d:Nat} (h:l.At w B ao k) (hq:2 ^ d * jr l≤2 ^ 50):(jT l d).size≤4503599627370496:=by
 cases l with
 | nil=>exact Nat.zero_le _
 | cons hh b e r=>
   have h1:=xJ d h
   have h2:=vC (.cons hh b e r)
   have h3:=VY UG hq
   have h4:=Wp hq
   generalize iC (.cons hh b e r)=c at *
   generalize jr (.cons hh b e r)=q at *
   have h5:6 * d * c≤300 * c:=Nat.mul_le_mul_right _ (by omega)
   omega
theorem jW (a b c:ByteArray):(a++b)++c=a++(b++c):=by
 apply ByteArray.ext; simp
theorem wP (a:ByteArray):(⟨#[]⟩:ByteArray)++a=a:=by
 apply ByteArray.ext; simp
theorem nV (a:ByteArray):a++(⟨#[]⟩:ByteArray)=a:=by
 apply ByteArray.ext; simp
theorem Aw (l:aN) (ih:l.All Ak):Oo l:=by
 intro w ao cap d hl hsh hq hat hp
 unfold maxLen at hl
 have jV:=Lib.hid (LK hat hq)
 have iR:=Lib.hid hp
 obtain ⟨res,je⟩: ∃res,Hid (jT l d=res):=⟨_,Lib.hid rfl⟩
 rw [je.out] at jV ⊢
 clear hp
 go_enter Tryz.func31,Tryz.ntmps31
 go_wp2_with fail
 go_loopw [5,6] (fun s i wr=> ∃(k:Nat) (R:aN) (t:ByteArray),i= .int .i64 k∧s= .string t∧k + R.len=l.len∧t++jT R d=res∧fK R=true∧2 ^ d * jr R≤2 ^ 50∧R.All Ak∧R.At wr wr.heap.size ao k∧Below w.heap.size w wr) (fun _ i _=>l.len - (intOf i).toNat)
 case atStart=>exact ⟨0,l,⟨#[]⟩,rfl,rfl,by simp,by rw [wP]; exact je.out,hsh,hq,ih,hat,Below.refl _ _⟩
 case round=>
  obtain ⟨k,R,t,rfl,rfl,hlen,heq,hsr,hqr,hall,hrow,hB⟩:=hrel
  have HE:=Lib.hid heq
  have HB:=Lib.hid hB
  clear heq hsh hq ih hat hB
  cases R with
  | nil=>
    obtain rfl:k=l.len:=by simpa [aN.len] using hlen
    have HT:Hid (t=res):=Lib.hid (by rw [← HE.out]; exact (nV t).symm)
    go_wp2_with fail
    go_ret
    exact ⟨by rw [← HT.out]; rfl,HB.out⟩
  | cons h b e R=>
    obtain ⟨bl,off,s,rfl,hbl,hin,x0,x1,x2,x3,x4,x5,x6,x7,x8,x9,x10,hrest⟩:=aN.At.head hrow
    obtain ⟨qN,pK⟩:=hall
    have hkl:k < l.len:=by simp only [aN.len] at hlen; omega
    rw [yU,Bool.and_eq_true] at hsr
    have hq1:2 ^ d * (vE h + 2 * jr b + 2 * jr e)≤2 ^ 50:=Nat.le_trans (Nat.mul_le_mul_left _ (by simp only [jr]; omega)) hqr
    have hq2:2 ^ d * jr R≤2 ^ 50:=Nat.le_trans (Nat.mul_le_mul_left _ (by simp only [jr]; omega)) hqr
    have HC:=Lib.hid (qN wr s d hin hsr.1 hq1 (iR.out.next HB.out))
    have HE2:Hid (res=(t++MS d h b e)++jT R d):=Lib.hid (by rw [← HE.out,jW]; rfl)
    have hts:t.size + (MS d h b e).size≤4503599627370496:=by
     have:=jV.out
     rw [HE2.out] at this
     simp only [ByteArray.size_append] at this
     omega
    have HR:=Lib.hid (And.intro hrest (And.intro hq2 (And.intro hsr.2 pK)))
    have HLEN:=Lib.hid hlen
    generalize MS d h b e=st at *
    have ht1:t.size≤4503599627370496:=by omega
    have ht2:st.size≤4503599627370496:=by omega
    clear hrow hin hq1 hq2 hqr hsr qN pK hrest hlen HE hts
    go_wp2_with fail
    refine HC.out.mono ?_
    rintro e' w2 ⟨rfl,hb2⟩
    have HB3:=Lib.hid hb2
    clear hb2 x0 x1 x2 x3 x4 x5 x6 x7 x8 x9 x10
    go_wp2_with fail
    go_roundw
    case rel=>exact ⟨k + 1,R,t++st,by go_num,rfl,by have:=HLEN.out; simp only [aN.len] at this; omega,HE2.out.symm,HR.out.2.2.1,HR.out.2.1,HR.out.2.2.2,HR.out.1.same HB3.out,HB.out.trans (HB3.out.mono HB.out.size)⟩
    case measure=>simp [intOf]; omega
theorem QH (op line:Int) (nm arg:ByteArray) (idx:aP) (bD xn:Int) (bC:ByteArray) (aL:aP) (b e:aN) (s:Sl):(Value.agg #[.int .i64 op,.int .i64 line,.string nm,.string arg,.slice s.dF idx.len s.bT,.int .i64 bD,.int .i64 xn,.string bC,.slice s.bS aL.len s.bf,.slice s.bG b.len s.aS,.slice s.dw e.len s.bR])=dx ⟨op,line,nm,arg,idx,bD,xn,bC,aL⟩ b e s:=rfl
theorem af3 (d:Nat):max (d:Int) 0=(d:Int):=by omega
theorem M4 (h:aV) (b e:aN) (ihb:b.All Ak) (H8:e.All Ak):Ak h b e:=by
 intro w s d hin hsh hq hp
 have ar7:d≤50:=VY (by unfold vE; omega) hq
 have ae8:=Wp hq
 have Ai:=Lib.hid (Aw b ihb)
 have DY:=Lib.hid (Aw e H8)
 have hs1:iq h b.len e.len=true∧fK b=true∧fK e=true:=by
  unfold tH at hsh; simp only [Bool.and_eq_true] at hsh; exact hsh
 have Wu:2 ^ (d + 1) * jr b≤2 ^ 50:=Nat.le_trans (by rw [Nat.pow_succ,Nat.mul_assoc]; exact Nat.mul_le_mul_left _ (by omega)) hq
 have hqe:2 ^ (d + 1) * jr e≤2 ^ 50:=Nat.le_trans (by rw [Nat.pow_succ,Nat.mul_assoc]; exact Nat.mul_le_mul_left _ (by omega)) hq
 have hop:=shO hs1.1
 have tX:=Lib.hid (fun w' hb=>Qm h b e s w' (hin.same hb) hs1.1 (by omega) (hp.next hb))
 have qo:=Lib.hid (fun w' hb=>Ai.out w' s.bG s.aS (d + 1) hin.1.2.2.2.2.2.2.1 hs1.2.1 Wu (hin.same hb).2.2.2.1 (hp.next hb))
 have HCE:=Lib.hid (fun w' hb=>DY.out w' s.dw s.bR (d + 1) hin.1.2.2.2.2.2.2.2 hs1.2.2 hqe (hin.same hb).2.2.2.2 (hp.next hb))
 have hz1:(eH h).size≤4503599627370496:=by have:=head_size h hin.2.1 hin.1.2.2.2.2.2.1.2.1 hin.2.2.1; omega
 have hz2:(jT b (d + 1)).size≤4503599627370496:=LK hin.2.2.2.1 Wu
 have hz3:(jT e (d + 1)).size≤4503599627370496:=LK hin.2.2.2.2 hqe
 have hz4:(mU d).size≤100:=by rw [uD]; omega
 obtain ⟨res,je⟩: ∃res,Hid (MS d h b e=res):=⟨_,Lib.hid rfl⟩
 have Sq:Hid (res=FH d h (jT b (d + 1)) (jT e (d + 1)) (iB e)):=Lib.hid je.out.symm
 have ae9:=Lib.hid (fun w=>Lh d (by omega) w)
 rw [je.out]
 clear je hin hsh hq hp Ai DY hs1 Wu hqe ihb H8 ae8
 have HST:Hid (res=if h.op < 2 || 8 < h.op then (mU d++eH h)++⟨#[10]⟩ else if iB e then ((((mU d++eH h)++⟨#[10]⟩)++jT b (d + 1))++mU d)++⟨#[125,10]⟩ else (((((((mU d++eH h)++⟨#[10]⟩)++jT b (d + 1))++mU d)++NM)++jT e (d + 1))++mU d)++⟨#[125,10]⟩):=Lib.hid (by
  rw [Sq.out]; unfold FH
  rw [if_neg (by simp; omega)])
 clear Sq
 generalize eH h=hd at *
 generalize jT b (d + 1)=tb at *
 generalize jT e (d + 1)=te at *
 generalize mU d=ind at *
 obtain ⟨op,line,nm,arg,idx,bD,xn,bC,aL⟩:=h
 dsimp only at HST hop
 have hmax:=af3 d
 unfold dx
 dsimp only
 go_enter Tryz.func61,Tryz.ntmps61
 go_upto_region 1 with fail
 have HZ:=Lib.hid ((Sit.start w).gF (n:=w.heap.size) rfl (.int .i64 op) (.int .i64 line) (.string nm) (.string arg) (.slice s.dF idx.len s.bT) (.int .i64 bD) (.int .i64 xn) (.string bC) (.slice s.bS aL.len s.bf) (.slice s.bG b.len s.aS) (.slice s.dw e.len s.bR) 89)
 generalize hW:World.alloc w _=W
 rw [hW] at HZ
 clear hW
 obtain ⟨-,⟨-,c0⟩,⟨-,c1⟩,⟨-,c2⟩,⟨-,c3⟩,⟨-,c4⟩,⟨-,c5⟩,⟨-,c6⟩,⟨-,c7⟩,⟨-,c8⟩,⟨-,c9⟩,⟨-,c10⟩,-⟩:=HZ.out
 have hop1: ¬ op < 1:=by omega
 have hop2: ¬ 15 < op:=by omega
 go_wp2_with fail
 refine (ae9.out _).mono ?_
 rintro e' w2 ⟨rfl,rfl⟩
 go_wp2_with fail
 rw [QH]
 refine (tX.out _ HZ.out.1).mono ?_
 rintro e' w3 ⟨rfl,hb⟩
 have HY:=Lib.hid (HZ.out.next hb)
 clear hb c0 c1 c2 c3 c4 c5 c6 c7 c8 c9 c10 HZ
 obtain ⟨-,⟨-,c0⟩,⟨-,c1⟩,⟨-,c2⟩,⟨-,c3⟩,⟨-,c4⟩,⟨-,c5⟩,⟨-,c6⟩,⟨-,c7⟩,⟨-,c8⟩,⟨-,c9⟩,⟨-,c10⟩,-⟩:=HY.out
 by_cases hb:op < 2∨8 < op
 ·have HR:=Lib.hid (HST.out.trans (if_pos (by simpa using hb)))
  rcases hb with hb | hb
  ·go_wp2_with fail
   go_ret
   exact ⟨by rw [HR.out]; rfl,HY.out.1⟩
  ·have hb': ¬ op < 2:=by omega
   go_wp2_with fail
   go_ret
   exact ⟨by rw [HR.out]; rfl,HY.out.1⟩
 ·have HR:=Lib.hid (HST.out.trans (if_neg (by simpa using hb)))
  have hb1: ¬ op < 2:=by omega
  have hb2: ¬ 8 < op:=by omega
  clear hb HST
  go_wp2_with fail
  refine (qo.out _ HY.out.1).mono ?_
  rintro e' w4 ⟨rfl,hb⟩
  have HV:=Lib.hid (HY.out.next hb)
  clear hb c0 c1 c2 c3 c4 c5 c6 c7 c8 c9 c10 HY
  obtain ⟨-,⟨-,c0⟩,⟨-,c1⟩,⟨-,c2⟩,⟨-,c3⟩,⟨-,c4⟩,⟨-,c5⟩,⟨-,c6⟩,⟨-,c7⟩,⟨-,c8⟩,⟨-,c9⟩,⟨-,c10⟩,-⟩:=HV.out
  cases e with
  | nil=>
    have HR2:=Lib.hid (HR.out.trans (if_pos rfl))
    simp only [aN.len] at c10
    go_wp2_with fail
    go_ret
    exact ⟨by rw [HR2.out]; rfl,HV.out.1⟩
  | cons he be ee re=>
    have HR2:=Lib.hid (HR.out.trans (if_neg (show ¬ false=true by decide)))
    have hlr:(0:Int) < ((aN.len (.cons he be ee re):Nat):Int):=by simp only [aN.len]; omega
    generalize aN.cons he be ee re=e at *
    unfold NM at HR2
    go_wp2_with fail
    refine (HCE.out _ HV.out.1).mono ?_
    rintro e' w5 ⟨rfl,hb⟩
    have HU:=Lib.hid ((HV.out.next hb).1)
    clear hb c0 c1 c2 c3 c4 c5 c6 c7 c8 c9 c10
    go_wp2_with fail
    go_ret
    exact ⟨by rw [HR2.out]; rfl,HU.out⟩
theorem M6 (l:aN):Oo l:=Aw l (aN.oo M4 l)
end Go.Proofs.YtehnipchbmjlhaaGreatDoor
end
