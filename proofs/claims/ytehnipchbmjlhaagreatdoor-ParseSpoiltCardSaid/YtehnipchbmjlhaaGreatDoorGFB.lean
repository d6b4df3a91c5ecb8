/-
  Contracts of the printer's indent and head (printed by gen_fmh.py).
  How long the printer's texts are. No program in sight.
  Contracts of the printer's Stmt and stmts.
-/
import Derived.Test.YtehnipchbmjlhaaGreatDoorGFA
set_option linter.unusedSimpArgs false
set_option linter.unusedVariables false
set_option maxHeartbeats 40000000
set_option maxRecDepth 1000000
section
namespace Go.Proofs.YtehnipchbmjlhaaGreatDoor
open Go.RowKit
open Md Fm
theorem uT: ∀n,(oF n).size=2 * n
 | 0=>rfl
 | n + 1=>by unfold oF; rw [ByteArray.size_append,uT n,show (⟨#[32,32]⟩:ByteArray).size=2 from rfl]; omega
theorem Nf (n:Nat) (hn:n≤1000000000000000000) (w:World):
 Calls Tryz.prog 98 #[.int .i64 (n:Int)] w fun e w'=>e= .returned (.string (oF n))∧w=w':=by
 go_enter Tryz.func98,Tryz.ntmps98
 go_wp2_with fail
 go_loop [3,4] (fun s i=> ∃k:Nat,k≤n∧i= .int .i64 k∧s= .string (oF k)) (fun _ i=>n - (intOf i).toNat)
 case atStart=>exact ⟨0,Nat.zero_le _,rfl,rfl⟩
 case round=>
  obtain ⟨k,hk,rfl,rfl⟩:=hrel
  by_cases hlt:k < n
  ·have hs:=uT k
   have hs':(oF k).size≤2000000000000000000:=by omega
   have HS:Hid (oF (k + 1)=oF k++⟨#[32,32]⟩):=Lib.hid rfl
   clear hs
   generalize oF k=t at *
   go_wp2_with fail
   go_round
   case rel=>exact ⟨k + 1,by omega,by go_num,by rw [HS.out]⟩
   case measure=>simp [intOf]; omega
  ·have e:k=n:=by omega
   subst e
   go_wp2_with fail
   go_ret
   exact ⟨rfl,rfl⟩
theorem shX {h:bf} {bl el:Nat} (hs:kG h bl el=true) (hx:fX h.op=true):gW h.bV h.xn h.bU h.aO=true:=by
 unfold kG at hs
 rw [hx] at hs
 simp only [Bool.and_eq_true,if_true] at hs
 exact hs.2.1
theorem shI {h:bf} {bl el:Nat} (hs:kG h bl el=true):h.idx.len≤1∧jo h.idx=true:=by
 unfold kG at hs
 simp only [Bool.and_eq_true,decide_eq_true_eq] at hs
 exact ⟨hs.1.2.1.1,hs.1.2.2⟩
theorem shO {h:bf} {bl el:Nat} (hs:kG h bl el=true):1≤h.op∧h.op≤15:=by
 unfold kG fO at hs
 simp only [Bool.and_eq_true,decide_eq_true_eq] at hs
 exact hs.1.1.1
theorem jY (op:Int):(ku op).size≤11:=by
 unfold ku
 simp only [apply_ite ByteArray.size]
 repeat (refine JZ (by decide) ?_)
 decide
theorem Ry (h:bf) (b e:aS) (s:Sl) (w:World) (hin:Dn w h b e s) (hsh:kG h b.len e.len=true) (hwt:vJ h≤1152921504606846976) (hp:kQ w):
 Calls Tryz.prog 99 #[bP h b e s] w fun e' w'=>e'= .returned (.string (iA h))∧Below w.heap.size w w':=by
 obtain ⟨op,line,nm,arg,idx,bV,xn,bU,aO⟩:=h
 have hop:=shO hsh
 dsimp only at hop
 unfold vJ mF at hwt
 dsimp only at hwt
 have hnm:nm.size≤1152921504606846976:=by omega
 have har:arg.size≤1152921504606846976:=by omega
 have HX:Hid (fX op=true→ ∀w',Below w.heap.size w w'→Calls Tryz.prog 19 #[.agg #[.int .i64 bV,.int .i64 xn,.string bU,.slice s.cB aO.len s.bF]] w' fun e' w2=>e'= .returned (.string (dx bV xn bU aO))∧Below w'.heap.size w' w2):=Lib.hid (fun hx w' hb=>
  GX bV xn bU aO w' s.cB s.bF hin.1.2.2.2.2.2.1 (shX hsh hx) (by unfold mF; omega) (hin.2.2.1.same hb) (hp.next hb))
 have Oa:Hid ((dx bV xn bU aO).size≤1152921504606846976):=Lib.hid (by
  have:=lF (kids:=aO) bV xn bU hin.1.2.2.2.2.2.1.2.1 hin.2.2.1
  unfold mF at this; omega)
 have HI:=Lib.hid (shI hsh)
 have jV:=Lib.hid hin
 have jr:=Lib.hid hp
 have HWI:Hid (rD idx≤1152921504606846976):=Lib.hid (by omega)
 have DU:Hid (∀c,op=c→iA ⟨c,line,nm,arg,idx,bV,xn,bU,aO⟩=iA ⟨op,line,nm,arg,idx,bV,xn,bU,aO⟩):=Lib.hid (fun c e=>by rw [e])
 clear hin hsh hwt hp
 have hc:op=1∨op=2∨op=3∨op=4∨op=5∨op=6∨op=7∨op=8∨op=9∨op=10∨op=11∨op=12∨op=13∨op=14∨op=15:=by omega
 clear hop DU
 rcases hc with rfl | rfl | rfl | rfl | rfl | rfl | rfl | rfl | rfl | rfl | rfl | rfl | rfl | rfl | rfl
 ·cases idx with
  | nil=>
    have iT:=Lib.hid (HX.out rfl)
    have HE:Hid (iA ⟨1,line,nm,arg,aZ.nil,bV,xn,bU,aO⟩=(((nm++⟨#[]⟩)++⟨#[32,61,32]⟩)++dx bV xn bU aO)++⟨#[59]⟩):=Lib.hid rfl
    rw [HE.out]
    clear HE HX
    have hxz:=Oa.out
    generalize dx bV xn bU aO=xt at *
    unfold bP
    dsimp only
    go_enter Tryz.func99,Tryz.ntmps99
    go_upto_region 1 with fail
    have HZ:=Lib.hid ((Sit.start w).lZ (n:=w.heap.size) rfl (.int .i64 1) (.int .i64 line) (.string nm) (.string arg) (.slice s.fH (aZ.nil).len s.dW) (.int .i64 bV) (.int .i64 xn) (.string bU) (.slice s.cB aO.len s.bF) (.slice s.bC b.len s.aV) (.slice s.eZ e.len s.dL) 89)
    generalize hW:World.alloc w _=W
    rw [hW] at HZ
    clear hW
    go_upto_region 2 with fail
    have HY:=Lib.hid (HZ.out.next (ah W (.cells #[.string ⟨#[]⟩,.string ⟨#[]⟩,.string ⟨#[105,102]⟩,.string ⟨#[119,104,105,108,101]⟩,.string ⟨#[108,111,99,107]⟩,.string ⟨#[114,101,97,100]⟩,.string ⟨#[119,114,105,116,101]⟩,.string ⟨#[116,114,97,110,115,97,99,116,105,111,110]⟩,.string ⟨#[97,116,111,109,105,99]⟩,.string ⟨#[119,97,105,116]⟩,.string ⟨#[110,111,116,105,102,121]⟩,.string ⟨#[110,111,116,105,102,121,97,108,108]⟩,.string ⟨#[115,112,97,119,110]⟩,.string ⟨#[106,111,105,110]⟩,.string ⟨#[115,101,116]⟩,.string ⟨#[103,101,116]⟩] 9)))
    have dM:=Lib.hid (heap_alloc_new W (.cells #[.string ⟨#[]⟩,.string ⟨#[]⟩,.string ⟨#[105,102]⟩,.string ⟨#[119,104,105,108,101]⟩,.string ⟨#[108,111,99,107]⟩,.string ⟨#[114,101,97,100]⟩,.string ⟨#[119,114,105,116,101]⟩,.string ⟨#[116,114,97,110,115,97,99,116,105,111,110]⟩,.string ⟨#[97,116,111,109,105,99]⟩,.string ⟨#[119,97,105,116]⟩,.string ⟨#[110,111,116,105,102,121]⟩,.string ⟨#[110,111,116,105,102,121,97,108,108]⟩,.string ⟨#[115,112,97,119,110]⟩,.string ⟨#[106,111,105,110]⟩,.string ⟨#[115,101,116]⟩,.string ⟨#[103,101,116]⟩] 9))
    generalize hW:World.alloc W _=W1
    rw [hW] at HY dM
    clear hW HZ
    have cw:W1.cell? ⟨W.heap.size,1,none⟩=some (.string ⟨#[]⟩):=aj dM.out rfl
    obtain ⟨wb,hwb⟩: ∃g,W.heap.size=g:=⟨_,rfl⟩
    rw [hwb] at cw ⊢
    clear dM hwb
    obtain ⟨-,⟨-,c0⟩,⟨-,c1⟩,⟨-,c2⟩,⟨-,c3⟩,⟨-,c4⟩,⟨-,c5⟩,⟨-,c6⟩,⟨-,c7⟩,⟨-,c8⟩,⟨-,c9⟩,⟨-,c10⟩,-⟩:=HY.out
    simp only [aZ.len] at c4
    go_upto_region 8 with fail
    obtain ⟨T,F,D7,hst,hF,hnext⟩:=calm W1
    have HF:=Lib.hid hF
    have gL:=Lib.hid hnext
    clear hnext hF
    have d0:=fun x=>(HY.out.next (HF.out x)).2.1.2
    have d1:=fun x=>(HY.out.next (HF.out x)).2.2.1.2
    have d2:=fun x=>(HY.out.next (HF.out x)).2.2.2.1.2
    have d3:=fun x=>(HY.out.next (HF.out x)).2.2.2.2.1.2
    have d4:=fun x=>(HY.out.next (HF.out x)).2.2.2.2.2.1.2
    have d5:=fun x=>(HY.out.next (HF.out x)).2.2.2.2.2.2.1.2
    have d6:=fun x=>(HY.out.next (HF.out x)).2.2.2.2.2.2.2.1.2
    have d7:=fun x=>(HY.out.next (HF.out x)).2.2.2.2.2.2.2.2.1.2
    have d8:=fun x=>(HY.out.next (HF.out x)).2.2.2.2.2.2.2.2.2.1.2
    have d9:=fun x=>(HY.out.next (HF.out x)).2.2.2.2.2.2.2.2.2.2.1.2
    have iJ:=fun x=>(HY.out.next (HF.out x)).2.2.2.2.2.2.2.2.2.2.2.1.2
    clear c0 c1 c2 c3 c4 c5 c6 c7 c8 c9 c10
    refine lJ F (by kernel_rfl) (by kernel_rfl) hst ?_
    repeat (any_goals (first | go_big_quiet_step ((go_at_call 19; refine (iT.out _ (HY.out.1.trans ((HF.out _).mono HY.out.1.size))).mono ?_; rintro e' w' ⟨rfl,hb⟩; exact ⟨rfl,gL.out _ _ hb⟩)) | (refine wpQuiet_step (fun K hK=> ?_); go_simp; first | (refine hK _ ?_; clear hK K) | (split <;> first | (refine hK _ ?_; clear hK K) | (apply Exists.intro; refine ⟨fun _=> ?_,hK _ ?_⟩; ((go_at_call 19; refine (iT.out _ (HY.out.1.trans ((HF.out _).mono HY.out.1.size))).mono ?_; rintro e' w' ⟨rfl,hb⟩; exact ⟨rfl,gL.out _ _ hb⟩)); clear hK K)))))
    all_goals (refine wpQuiet_nil ?_; rintro _ ⟨x,rfl⟩)
    have HB:=Lib.hid (HY.out.1.trans ((HF.out x).mono HY.out.1.size))
    clear d0 d1 d2 d3 d4 d5 d6 d7 d8 d9 iJ HF gL hst
    generalize F x=W3 at *
    go_wp2_with fail
    go_ret
    exact ⟨rfl,HB.out⟩
  | cons o m s0 k r=>
    obtain ⟨⟨b0,jc,uL,cap0,hao,hb0,x0,x1,x2,x3,hok0,qh⟩,-⟩:=jV.out.2.1
    have hsk:gW o m s0 k=true:=by have:=HI.out.2; unfold jo at this; rw [Bool.and_eq_true,Bool.and_eq_true] at this; unfold gW; rw [Bool.and_eq_true]; exact this.1
    have hwk:mF s0 k≤1152921504606846976:=by have:=HWI.out; unfold rD at this; unfold mF; omega
    have UL:=Lib.hid (fun w' hb=>GX o m s0 k w' uL cap0 hok0 hsk hwk (qh.same hb) (jr.out.next hb))
    have hiz:(dx o m s0 k).size≤1152921504606846976:=Nat.le_trans (lF o m s0 hok0.2.1 qh) hwk
    have qB:=Lib.hid (And.intro hb0 (And.intro x0 (And.intro x1 (And.intro x2 x3))))
    have TN:=Lib.hid hao
    clear x0 x1 x2 x3 hok0 qh hsk hwk hb0 jV HI HWI hao
    have iT:=Lib.hid (HX.out rfl)
    have HE:Hid (iA ⟨1,line,nm,arg,(aZ.cons o m s0 k r),bV,xn,bU,aO⟩=(((nm++((⟨#[91]⟩++dx o m s0 k)++⟨#[93]⟩))++⟨#[32,61,32]⟩)++dx bV xn bU aO)++⟨#[59]⟩):=Lib.hid rfl
    rw [HE.out]
    clear HE HX
    have hxz:=Oa.out
    generalize dx bV xn bU aO=xt at *
    generalize dx o m s0 k=ik at *
    unfold bP
    dsimp only
    go_enter Tryz.func99,Tryz.ntmps99
    go_upto_region 1 with fail
    have HZ:=Lib.hid ((Sit.start w).lZ (n:=w.heap.size) rfl (.int .i64 1) (.int .i64 line) (.string nm) (.string arg) (.slice s.fH ((aZ.cons o m s0 k r)).len s.dW) (.int .i64 bV) (.int .i64 xn) (.string bU) (.slice s.cB aO.len s.bF) (.slice s.bC b.len s.aV) (.slice s.eZ e.len s.dL) 89)
    generalize hW:World.alloc w _=W
    rw [hW] at HZ
    clear hW
    go_upto_region 2 with fail
    have HY:=Lib.hid (HZ.out.next (ah W (.cells #[.string ⟨#[]⟩,.string ⟨#[]⟩,.string ⟨#[105,102]⟩,.string ⟨#[119,104,105,108,101]⟩,.string ⟨#[108,111,99,107]⟩,.string ⟨#[114,101,97,100]⟩,.string ⟨#[119,114,105,116,101]⟩,.string ⟨#[116,114,97,110,115,97,99,116,105,111,110]⟩,.string ⟨#[97,116,111,109,105,99]⟩,.string ⟨#[119,97,105,116]⟩,.string ⟨#[110,111,116,105,102,121]⟩,.string ⟨#[110,111,116,105,102,121,97,108,108]⟩,.string ⟨#[115,112,97,119,110]⟩,.string ⟨#[106,111,105,110]⟩,.string ⟨#[115,101,116]⟩,.string ⟨#[103,101,116]⟩] 9)))
    have dM:=Lib.hid (heap_alloc_new W (.cells #[.string ⟨#[]⟩,.string ⟨#[]⟩,.string ⟨#[105,102]⟩,.string ⟨#[119,104,105,108,101]⟩,.string ⟨#[108,111,99,107]⟩,.string ⟨#[114,101,97,100]⟩,.string ⟨#[119,114,105,116,101]⟩,.string ⟨#[116,114,97,110,115,97,99,116,105,111,110]⟩,.string ⟨#[97,116,111,109,105,99]⟩,.string ⟨#[119,97,105,116]⟩,.string ⟨#[110,111,116,105,102,121]⟩,.string ⟨#[110,111,116,105,102,121,97,108,108]⟩,.string ⟨#[115,112,97,119,110]⟩,.string ⟨#[106,111,105,110]⟩,.string ⟨#[115,101,116]⟩,.string ⟨#[103,101,116]⟩] 9))
    generalize hW:World.alloc W _=W1
    rw [hW] at HY dM
    clear hW HZ
    have cw:W1.cell? ⟨W.heap.size,1,none⟩=some (.string ⟨#[]⟩):=aj dM.out rfl
    obtain ⟨wb,hwb⟩: ∃g,W.heap.size=g:=⟨_,rfl⟩
    rw [hwb] at cw ⊢
    clear dM hwb
    obtain ⟨-,⟨-,c0⟩,⟨-,c1⟩,⟨-,c2⟩,⟨-,c3⟩,⟨-,c4⟩,⟨-,c5⟩,⟨-,c6⟩,⟨-,c7⟩,⟨-,c8⟩,⟨-,c9⟩,⟨-,c10⟩,-⟩:=HY.out
    have y0:=(HY.out.1.cell (p:=⟨b0,jc + 0 * 4,none⟩) qB.out.1).trans qB.out.2.1
    have y1:=(HY.out.1.cell (p:=⟨b0,jc + 0 * 4 + 1,none⟩) qB.out.1).trans qB.out.2.2.1
    have y2:=(HY.out.1.cell (p:=⟨b0,jc + 0 * 4 + 2,none⟩) qB.out.1).trans qB.out.2.2.2.1
    have y3:=(HY.out.1.cell (p:=⟨b0,jc + 0 * 4 + 3,none⟩) qB.out.1).trans qB.out.2.2.2.2
    simp only [Nat.zero_mul,Nat.add_zero] at y0 y1 y2 y3
    rw [TN.out] at c4
    simp only [aZ.len] at c4
    have hlr:(0:Int) < ((r.len + 1:Nat):Int):=by omega
    go_wp2_with fail
    refine (UL.out _ HY.out.1).mono ?_
    rintro e' w3 ⟨rfl,hb⟩
    have HV:=Lib.hid (HY.out.next hb)
    clear hb c0 c1 c2 c3 c4 c5 c6 c7 c8 c9 c10 y0 y1 y2 y3 UL
    obtain ⟨-,⟨-,c0⟩,⟨-,c1⟩,⟨-,c2⟩,⟨-,c3⟩,⟨-,c4⟩,⟨-,c5⟩,⟨-,c6⟩,⟨-,c7⟩,⟨-,c8⟩,⟨-,c9⟩,⟨-,c10⟩,-⟩:=HV.out
    go_upto_region 8 with fail
    obtain ⟨T,F,D7,hst,hF,hnext⟩:=calm w3
    have HF:=Lib.hid hF
    have gL:=Lib.hid hnext
    clear hnext hF
    have d0:=fun x=>(HV.out.next (HF.out x)).2.1.2
    have d1:=fun x=>(HV.out.next (HF.out x)).2.2.1.2
    have d2:=fun x=>(HV.out.next (HF.out x)).2.2.2.1.2
    have d3:=fun x=>(HV.out.next (HF.out x)).2.2.2.2.1.2
    have d4:=fun x=>(HV.out.next (HF.out x)).2.2.2.2.2.1.2
    have d5:=fun x=>(HV.out.next (HF.out x)).2.2.2.2.2.2.1.2
    have d6:=fun x=>(HV.out.next (HF.out x)).2.2.2.2.2.2.2.1.2
    have d7:=fun x=>(HV.out.next (HF.out x)).2.2.2.2.2.2.2.2.1.2
    have d8:=fun x=>(HV.out.next (HF.out x)).2.2.2.2.2.2.2.2.2.1.2
    have d9:=fun x=>(HV.out.next (HF.out x)).2.2.2.2.2.2.2.2.2.2.1.2
    have iJ:=fun x=>(HV.out.next (HF.out x)).2.2.2.2.2.2.2.2.2.2.2.1.2
    clear c0 c1 c2 c3 c4 c5 c6 c7 c8 c9 c10
    refine lJ F (by kernel_rfl) (by kernel_rfl) hst ?_
    repeat (any_goals (first | go_big_quiet_step ((go_at_call 19; refine (iT.out _ (HV.out.1.trans ((HF.out _).mono HV.out.1.size))).mono ?_; rintro e' w' ⟨rfl,hb⟩; exact ⟨rfl,gL.out _ _ hb⟩)) | (refine wpQuiet_step (fun K hK=> ?_); go_simp; first | (refine hK _ ?_; clear hK K) | (split <;> first | (refine hK _ ?_; clear hK K) | (apply Exists.intro; refine ⟨fun _=> ?_,hK _ ?_⟩; ((go_at_call 19; refine (iT.out _ (HV.out.1.trans ((HF.out _).mono HV.out.1.size))).mono ?_; rintro e' w' ⟨rfl,hb⟩; exact ⟨rfl,gL.out _ _ hb⟩)); clear hK K)))))
    all_goals (refine wpQuiet_nil ?_; rintro _ ⟨x,rfl⟩)
    have HB:=Lib.hid (HV.out.1.trans ((HF.out x).mono HV.out.1.size))
    clear d0 d1 d2 d3 d4 d5 d6 d7 d8 d9 iJ HF gL hst
    generalize F x=W3 at *
    go_wp2_with fail
    go_ret
    exact ⟨rfl,HB.out⟩
 ·have iT:=Lib.hid (HX.out rfl)
  have HE:Hid (iA ⟨2,line,nm,arg,idx,bV,xn,bU,aO⟩=((ku 2++⟨#[32]⟩)++dx bV xn bU aO)++⟨#[32,123]⟩):=Lib.hid rfl
  rw [HE.out]
  clear HE HX
  have hxz:=Oa.out
  obtain ⟨wd,dK⟩: ∃wd,Hid (ku 2=wd):=⟨_,Lib.hid rfl⟩
  have hwd:wd.size≤11:=by rw [← dK.out]; exact jY 2
  rw [dK.out]
  generalize dx bV xn bU aO=xt at *
  unfold bP
  dsimp only
  go_enter Tryz.func99,Tryz.ntmps99
  go_upto_region 1 with fail
  have HZ:=Lib.hid ((Sit.start w).lZ (n:=w.heap.size) rfl (.int .i64 2) (.int .i64 line) (.string nm) (.string arg) (.slice s.fH (idx).len s.dW) (.int .i64 bV) (.int .i64 xn) (.string bU) (.slice s.cB aO.len s.bF) (.slice s.bC b.len s.aV) (.slice s.eZ e.len s.dL) 89)
  generalize hW:World.alloc w _=W
  rw [hW] at HZ
  clear hW
  go_upto_region 2 with fail
  have HY:=Lib.hid (HZ.out.next (ah W (.cells #[.string ⟨#[]⟩,.string ⟨#[]⟩,.string ⟨#[105,102]⟩,.string ⟨#[119,104,105,108,101]⟩,.string ⟨#[108,111,99,107]⟩,.string ⟨#[114,101,97,100]⟩,.string ⟨#[119,114,105,116,101]⟩,.string ⟨#[116,114,97,110,115,97,99,116,105,111,110]⟩,.string ⟨#[97,116,111,109,105,99]⟩,.string ⟨#[119,97,105,116]⟩,.string ⟨#[110,111,116,105,102,121]⟩,.string ⟨#[110,111,116,105,102,121,97,108,108]⟩,.string ⟨#[115,112,97,119,110]⟩,.string ⟨#[106,111,105,110]⟩,.string ⟨#[115,101,116]⟩,.string ⟨#[103,101,116]⟩] 9)))
  have dM:=Lib.hid (heap_alloc_new W (.cells #[.string ⟨#[]⟩,.string ⟨#[]⟩,.string ⟨#[105,102]⟩,.string ⟨#[119,104,105,108,101]⟩,.string ⟨#[108,111,99,107]⟩,.string ⟨#[114,101,97,100]⟩,.string ⟨#[119,114,105,116,101]⟩,.string ⟨#[116,114,97,110,115,97,99,116,105,111,110]⟩,.string ⟨#[97,116,111,109,105,99]⟩,.string ⟨#[119,97,105,116]⟩,.string ⟨#[110,111,116,105,102,121]⟩,.string ⟨#[110,111,116,105,102,121,97,108,108]⟩,.string ⟨#[115,112,97,119,110]⟩,.string ⟨#[106,111,105,110]⟩,.string ⟨#[115,101,116]⟩,.string ⟨#[103,101,116]⟩] 9))
  generalize hW:World.alloc W _=W1
  rw [hW] at HY dM
  clear hW HZ
  have cw:W1.cell? ⟨W.heap.size,2,none⟩=some (.string wd):=by rw [← dK.out]; exact aj dM.out rfl
  obtain ⟨wb,hwb⟩: ∃g,W.heap.size=g:=⟨_,rfl⟩
  rw [hwb] at cw ⊢
  clear dM hwb
  obtain ⟨-,⟨-,c0⟩,⟨-,c1⟩,⟨-,c2⟩,⟨-,c3⟩,⟨-,c4⟩,⟨-,c5⟩,⟨-,c6⟩,⟨-,c7⟩,⟨-,c8⟩,⟨-,c9⟩,⟨-,c10⟩,-⟩:=HY.out
  go_wp2_with fail
  refine (iT.out _ HY.out.1).mono ?_
  rintro e' w3 ⟨rfl,hb⟩
  have HB:=Lib.hid ((HY.out.next hb).1)
  clear hb
  go_wp2_with fail
  go_ret
  exact ⟨rfl,HB.out⟩
 ·have iT:=Lib.hid (HX.out rfl)
  have HE:Hid (iA ⟨3,line,nm,arg,idx,bV,xn,bU,aO⟩=((ku 3++⟨#[32]⟩)++dx bV xn bU aO)++⟨#[32,123]⟩):=Lib.hid rfl
  rw [HE.out]
  clear HE HX
  have hxz:=Oa.out
  obtain ⟨wd,dK⟩: ∃wd,Hid (ku 3=wd):=⟨_,Lib.hid rfl⟩
  have hwd:wd.size≤11:=by rw [← dK.out]; exact jY 3
  rw [dK.out]
  generalize dx bV xn bU aO=xt at *
  unfold bP
  dsimp only
  go_enter Tryz.func99,Tryz.ntmps99
  go_upto_region 1 with fail
  have HZ:=Lib.hid ((Sit.start w).lZ (n:=w.heap.size) rfl (.int .i64 3) (.int .i64 line) (.string nm) (.string arg) (.slice s.fH (idx).len s.dW) (.int .i64 bV) (.int .i64 xn) (.string bU) (.slice s.cB aO.len s.bF) (.slice s.bC b.len s.aV) (.slice s.eZ e.len s.dL) 89)
  generalize hW:World.alloc w _=W
  rw [hW] at HZ
  clear hW
  go_upto_region 2 with fail
  have HY:=Lib.hid (HZ.out.next (ah W (.cells #[.string ⟨#[]⟩,.string ⟨#[]⟩,.string ⟨#[105,102]⟩,.string ⟨#[119,104,105,108,101]⟩,.string ⟨#[108,111,99,107]⟩,.string ⟨#[114,101,97,100]⟩,.string ⟨#[119,114,105,116,101]⟩,.string ⟨#[116,114,97,110,115,97,99,116,105,111,110]⟩,.string ⟨#[97,116,111,109,105,99]⟩,.string ⟨#[119,97,105,116]⟩,.string ⟨#[110,111,116,105,102,121]⟩,.string ⟨#[110,111,116,105,102,121,97,108,108]⟩,.string ⟨#[115,112,97,119,110]⟩,.string ⟨#[106,111,105,110]⟩,.string ⟨#[115,101,116]⟩,.string ⟨#[103,101,116]⟩] 9)))
  have dM:=Lib.hid (heap_alloc_new W (.cells #[.string ⟨#[]⟩,.string ⟨#[]⟩,.string ⟨#[105,102]⟩,.string ⟨#[119,104,105,108,101]⟩,.string ⟨#[108,111,99,107]⟩,.string ⟨#[114,101,97,100]⟩,.string ⟨#[119,114,105,116,101]⟩,.string ⟨#[116,114,97,110,115,97,99,116,105,111,110]⟩,.string ⟨#[97,116,111,109,105,99]⟩,.string ⟨#[119,97,105,116]⟩,.string ⟨#[110,111,116,105,102,121]⟩,.string ⟨#[110,111,116,105,102,121,97,108,108]⟩,.string ⟨#[115,112,97,119,110]⟩,.string ⟨#[106,111,105,110]⟩,.string ⟨#[115,101,116]⟩,.string ⟨#[103,101,116]⟩] 9))
  generalize hW:World.alloc W _=W1
  rw [hW] at HY dM
  clear hW HZ
  have cw:W1.cell? ⟨W.heap.size,3,none⟩=some (.string wd):=by rw [← dK.out]; exact aj dM.out rfl
  obtain ⟨wb,hwb⟩: ∃g,W.heap.size=g:=⟨_,rfl⟩
  rw [hwb] at cw ⊢
  clear dM hwb
  obtain ⟨-,⟨-,c0⟩,⟨-,c1⟩,⟨-,c2⟩,⟨-,c3⟩,⟨-,c4⟩,⟨-,c5⟩,⟨-,c6⟩,⟨-,c7⟩,⟨-,c8⟩,⟨-,c9⟩,⟨-,c10⟩,-⟩:=HY.out
  go_wp2_with fail
  refine (iT.out _ HY.out.1).mono ?_
  rintro e' w3 ⟨rfl,hb⟩
  have HB:=Lib.hid ((HY.out.next hb).1)
  clear hb
  go_wp2_with fail
  go_ret
  exact ⟨rfl,HB.out⟩
 ·have HE:Hid (iA ⟨4,line,nm,arg,idx,bV,xn,bU,aO⟩=((ku 4++⟨#[32]⟩)++nm)++⟨#[32,123]⟩):=Lib.hid rfl
  rw [HE.out]
  clear HE HX
  obtain ⟨wd,dK⟩: ∃wd,Hid (ku 4=wd):=⟨_,Lib.hid rfl⟩
  have hwd:wd.size≤11:=by rw [← dK.out]; exact jY 4
  rw [dK.out]
  generalize dx bV xn bU aO=xt at *
  unfold bP
  dsimp only
  go_enter Tryz.func99,Tryz.ntmps99
  go_upto_region 1 with fail
  have HZ:=Lib.hid ((Sit.start w).lZ (n:=w.heap.size) rfl (.int .i64 4) (.int .i64 line) (.string nm) (.string arg) (.slice s.fH (idx).len s.dW) (.int .i64 bV) (.int .i64 xn) (.string bU) (.slice s.cB aO.len s.bF) (.slice s.bC b.len s.aV) (.slice s.eZ e.len s.dL) 89)
  generalize hW:World.alloc w _=W
  rw [hW] at HZ
  clear hW
  go_upto_region 2 with fail
  have HY:=Lib.hid (HZ.out.next (ah W (.cells #[.string ⟨#[]⟩,.string ⟨#[]⟩,.string ⟨#[105,102]⟩,.string ⟨#[119,104,105,108,101]⟩,.string ⟨#[108,111,99,107]⟩,.string ⟨#[114,101,97,100]⟩,.string ⟨#[119,114,105,116,101]⟩,.string ⟨#[116,114,97,110,115,97,99,116,105,111,110]⟩,.string ⟨#[97,116,111,109,105,99]⟩,.string ⟨#[119,97,105,116]⟩,.string ⟨#[110,111,116,105,102,121]⟩,.string ⟨#[110,111,116,105,102,121,97,108,108]⟩,.string ⟨#[115,112,97,119,110]⟩,.string ⟨#[106,111,105,110]⟩,.string ⟨#[115,101,116]⟩,.string ⟨#[103,101,116]⟩] 9)))
  have dM:=Lib.hid (heap_alloc_new W (.cells #[.string ⟨#[]⟩,.string ⟨#[]⟩,.string ⟨#[105,102]⟩,.string ⟨#[119,104,105,108,101]⟩,.string ⟨#[108,111,99,107]⟩,.string ⟨#[114,101,97,100]⟩,.string ⟨#[119,114,105,116,101]⟩,.string ⟨#[116,114,97,110,115,97,99,116,105,111,110]⟩,.string ⟨#[97,116,111,109,105,99]⟩,.string ⟨#[119,97,105,116]⟩,.string ⟨#[110,111,116,105,102,121]⟩,.string ⟨#[110,111,116,105,102,121,97,108,108]⟩,.string ⟨#[115,112,97,119,110]⟩,.string ⟨#[106,111,105,110]⟩,.string ⟨#[115,101,116]⟩,.string ⟨#[103,101,116]⟩] 9))
  generalize hW:World.alloc W _=W1
  rw [hW] at HY dM
  clear hW HZ
  have cw:W1.cell? ⟨W.heap.size,4,none⟩=some (.string wd):=by rw [← dK.out]; exact aj dM.out rfl
  obtain ⟨wb,hwb⟩: ∃g,W.heap.size=g:=⟨_,rfl⟩
  rw [hwb] at cw ⊢
  clear dM hwb
  obtain ⟨-,⟨-,c0⟩,⟨-,c1⟩,⟨-,c2⟩,⟨-,c3⟩,⟨-,c4⟩,⟨-,c5⟩,⟨-,c6⟩,⟨-,c7⟩,⟨-,c8⟩,⟨-,c9⟩,⟨-,c10⟩,-⟩:=HY.out
  go_wp2_with fail
  go_ret
  exact ⟨rfl,HY.out.1⟩
 ·have HE:Hid (iA ⟨5,line,nm,arg,idx,bV,xn,bU,aO⟩=((ku 5++⟨#[32]⟩)++nm)++⟨#[32,123]⟩):=Lib.hid rfl
  rw [HE.out]
  clear HE HX
  obtain ⟨wd,dK⟩: ∃wd,Hid (ku 5=wd):=⟨_,Lib.hid rfl⟩
  have hwd:wd.size≤11:=by rw [← dK.out]; exact jY 5
  rw [dK.out]
  generalize dx bV xn bU aO=xt at *
  unfold bP
  dsimp only
  go_enter Tryz.func99,Tryz.ntmps99
  go_upto_region 1 with fail
  have HZ:=Lib.hid ((Sit.start w).lZ (n:=w.heap.size) rfl (.int .i64 5) (.int .i64 line) (.string nm) (.string arg) (.slice s.fH (idx).len s.dW) (.int .i64 bV) (.int .i64 xn) (.string bU) (.slice s.cB aO.len s.bF) (.slice s.bC b.len s.aV) (.slice s.eZ e.len s.dL) 89)
  generalize hW:World.alloc w _=W
  rw [hW] at HZ
  clear hW
  go_upto_region 2 with fail
  have HY:=Lib.hid (HZ.out.next (ah W (.cells #[.string ⟨#[]⟩,.string ⟨#[]⟩,.string ⟨#[105,102]⟩,.string ⟨#[119,104,105,108,101]⟩,.string ⟨#[108,111,99,107]⟩,.string ⟨#[114,101,97,100]⟩,.string ⟨#[119,114,105,116,101]⟩,.string ⟨#[116,114,97,110,115,97,99,116,105,111,110]⟩,.string ⟨#[97,116,111,109,105,99]⟩,.string ⟨#[119,97,105,116]⟩,.string ⟨#[110,111,116,105,102,121]⟩,.string ⟨#[110,111,116,105,102,121,97,108,108]⟩,.string ⟨#[115,112,97,119,110]⟩,.string ⟨#[106,111,105,110]⟩,.string ⟨#[115,101,116]⟩,.string ⟨#[103,101,116]⟩] 9)))
  have dM:=Lib.hid (heap_alloc_new W (.cells #[.string ⟨#[]⟩,.string ⟨#[]⟩,.string ⟨#[105,102]⟩,.string ⟨#[119,104,105,108,101]⟩,.string ⟨#[108,111,99,107]⟩,.string ⟨#[114,101,97,100]⟩,.string ⟨#[119,114,105,116,101]⟩,.string ⟨#[116,114,97,110,115,97,99,116,105,111,110]⟩,.string ⟨#[97,116,111,109,105,99]⟩,.string ⟨#[119,97,105,116]⟩,.string ⟨#[110,111,116,105,102,121]⟩,.string ⟨#[110,111,116,105,102,121,97,108,108]⟩,.string ⟨#[115,112,97,119,110]⟩,.string ⟨#[106,111,105,110]⟩,.string ⟨#[115,101,116]⟩,.string ⟨#[103,101,116]⟩] 9))
  generalize hW:World.alloc W _=W1
  rw [hW] at HY dM
  clear hW HZ
  have cw:W1.cell? ⟨W.heap.size,5,none⟩=some (.string wd):=by rw [← dK.out]; exact aj dM.out rfl
  obtain ⟨wb,hwb⟩: ∃g,W.heap.size=g:=⟨_,rfl⟩
  rw [hwb] at cw ⊢
  clear dM hwb
  obtain ⟨-,⟨-,c0⟩,⟨-,c1⟩,⟨-,c2⟩,⟨-,c3⟩,⟨-,c4⟩,⟨-,c5⟩,⟨-,c6⟩,⟨-,c7⟩,⟨-,c8⟩,⟨-,c9⟩,⟨-,c10⟩,-⟩:=HY.out
  go_wp2_with fail
  go_ret
  exact ⟨rfl,HY.out.1⟩
 ·have HE:Hid (iA ⟨6,line,nm,arg,idx,bV,xn,bU,aO⟩=((ku 6++⟨#[32]⟩)++nm)++⟨#[32,123]⟩):=Lib.hid rfl
  rw [HE.out]
  clear HE HX
  obtain ⟨wd,dK⟩: ∃wd,Hid (ku 6=wd):=⟨_,Lib.hid rfl⟩
  have hwd:wd.size≤11:=by rw [← dK.out]; exact jY 6
  rw [dK.out]
  generalize dx bV xn bU aO=xt at *
  unfold bP
  dsimp only
  go_enter Tryz.func99,Tryz.ntmps99
  go_upto_region 1 with fail
  have HZ:=Lib.hid ((Sit.start w).lZ (n:=w.heap.size) rfl (.int .i64 6) (.int .i64 line) (.string nm) (.string arg) (.slice s.fH (idx).len s.dW) (.int .i64 bV) (.int .i64 xn) (.string bU) (.slice s.cB aO.len s.bF) (.slice s.bC b.len s.aV) (.slice s.eZ e.len s.dL) 89)
  generalize hW:World.alloc w _=W
  rw [hW] at HZ
  clear hW
  go_upto_region 2 with fail
  have HY:=Lib.hid (HZ.out.next (ah W (.cells #[.string ⟨#[]⟩,.string ⟨#[]⟩,.string ⟨#[105,102]⟩,.string ⟨#[119,104,105,108,101]⟩,.string ⟨#[108,111,99,107]⟩,.string ⟨#[114,101,97,100]⟩,.string ⟨#[119,114,105,116,101]⟩,.string ⟨#[116,114,97,110,115,97,99,116,105,111,110]⟩,.string ⟨#[97,116,111,109,105,99]⟩,.string ⟨#[119,97,105,116]⟩,.string ⟨#[110,111,116,105,102,121]⟩,.string ⟨#[110,111,116,105,102,121,97,108,108]⟩,.string ⟨#[115,112,97,119,110]⟩,.string ⟨#[106,111,105,110]⟩,.string ⟨#[115,101,116]⟩,.string ⟨#[103,101,116]⟩] 9)))
  have dM:=Lib.hid (heap_alloc_new W (.cells #[.string ⟨#[]⟩,.string ⟨#[]⟩,.string ⟨#[105,102]⟩,.string ⟨#[119,104,105,108,101]⟩,.string ⟨#[108,111,99,107]⟩,.string ⟨#[114,101,97,100]⟩,.string ⟨#[119,114,105,116,101]⟩,.string ⟨#[116,114,97,110,115,97,99,116,105,111,110]⟩,.string ⟨#[97,116,111,109,105,99]⟩,.string ⟨#[119,97,105,116]⟩,.string ⟨#[110,111,116,105,102,121]⟩,.string ⟨#[110,111,116,105,102,121,97,108,108]⟩,.string ⟨#[115,112,97,119,110]⟩,.string ⟨#[106,111,105,110]⟩,.string ⟨#[115,101,116]⟩,.string ⟨#[103,101,116]⟩] 9))
  generalize hW:World.alloc W _=W1
  rw [hW] at HY dM
  clear hW HZ
  have cw:W1.cell? ⟨W.heap.size,6,none⟩=some (.string wd):=by rw [← dK.out]; exact aj dM.out rfl
  obtain ⟨wb,hwb⟩: ∃g,W.heap.size=g:=⟨_,rfl⟩
  rw [hwb] at cw ⊢
  clear dM hwb
  obtain ⟨-,⟨-,c0⟩,⟨-,c1⟩,⟨-,c2⟩,⟨-,c3⟩,⟨-,c4⟩,⟨-,c5⟩,⟨-,c6⟩,⟨-,c7⟩,⟨-,c8⟩,⟨-,c9⟩,⟨-,c10⟩,-⟩:=HY.out
  go_wp2_with fail
  go_ret
  exact ⟨rfl,HY.out.1⟩
 ·have HE:Hid (iA ⟨7,line,nm,arg,idx,bV,xn,bU,aO⟩=ku 7++⟨#[32,123]⟩):=Lib.hid rfl
  rw [HE.out]
  clear HE HX
  obtain ⟨wd,dK⟩: ∃wd,Hid (ku 7=wd):=⟨_,Lib.hid rfl⟩
  have hwd:wd.size≤11:=by rw [← dK.out]; exact jY 7
  rw [dK.out]
  generalize dx bV xn bU aO=xt at *
  unfold bP
  dsimp only
  go_enter Tryz.func99,Tryz.ntmps99
  go_upto_region 1 with fail
  have HZ:=Lib.hid ((Sit.start w).lZ (n:=w.heap.size) rfl (.int .i64 7) (.int .i64 line) (.string nm) (.string arg) (.slice s.fH (idx).len s.dW) (.int .i64 bV) (.int .i64 xn) (.string bU) (.slice s.cB aO.len s.bF) (.slice s.bC b.len s.aV) (.slice s.eZ e.len s.dL) 89)
  generalize hW:World.alloc w _=W
  rw [hW] at HZ
  clear hW
  go_upto_region 2 with fail
  have HY:=Lib.hid (HZ.out.next (ah W (.cells #[.string ⟨#[]⟩,.string ⟨#[]⟩,.string ⟨#[105,102]⟩,.string ⟨#[119,104,105,108,101]⟩,.string ⟨#[108,111,99,107]⟩,.string ⟨#[114,101,97,100]⟩,.string ⟨#[119,114,105,116,101]⟩,.string ⟨#[116,114,97,110,115,97,99,116,105,111,110]⟩,.string ⟨#[97,116,111,109,105,99]⟩,.string ⟨#[119,97,105,116]⟩,.string ⟨#[110,111,116,105,102,121]⟩,.string ⟨#[110,111,116,105,102,121,97,108,108]⟩,.string ⟨#[115,112,97,119,110]⟩,.string ⟨#[106,111,105,110]⟩,.string ⟨#[115,101,116]⟩,.string ⟨#[103,101,116]⟩] 9)))
  have dM:=Lib.hid (heap_alloc_new W (.cells #[.string ⟨#[]⟩,.string ⟨#[]⟩,.string ⟨#[105,102]⟩,.string ⟨#[119,104,105,108,101]⟩,.string ⟨#[108,111,99,107]⟩,.string ⟨#[114,101,97,100]⟩,.string ⟨#[119,114,105,116,101]⟩,.string ⟨#[116,114,97,110,115,97,99,116,105,111,110]⟩,.string ⟨#[97,116,111,109,105,99]⟩,.string ⟨#[119,97,105,116]⟩,.string ⟨#[110,111,116,105,102,121]⟩,.string ⟨#[110,111,116,105,102,121,97,108,108]⟩,.string ⟨#[115,112,97,119,110]⟩,.string ⟨#[106,111,105,110]⟩,.string ⟨#[115,101,116]⟩,.string ⟨#[103,101,116]⟩] 9))
  generalize hW:World.alloc W _=W1
  rw [hW] at HY dM
  clear hW HZ
  have cw:W1.cell? ⟨W.heap.size,7,none⟩=some (.string wd):=by rw [← dK.out]; exact aj dM.out rfl
  obtain ⟨wb,hwb⟩: ∃g,W.heap.size=g:=⟨_,rfl⟩
  rw [hwb] at cw ⊢
  clear dM hwb
  obtain ⟨-,⟨-,c0⟩,⟨-,c1⟩,⟨-,c2⟩,⟨-,c3⟩,⟨-,c4⟩,⟨-,c5⟩,⟨-,c6⟩,⟨-,c7⟩,⟨-,c8⟩,⟨-,c9⟩,⟨-,c10⟩,-⟩:=HY.out
  go_wp2_with fail
  go_ret
  exact ⟨rfl,HY.out.1⟩
 ·have HE:Hid (iA ⟨8,line,nm,arg,idx,bV,xn,bU,aO⟩=ku 8++⟨#[32,123]⟩):=Lib.hid rfl
  rw [HE.out]
  clear HE HX
  obtain ⟨wd,dK⟩: ∃wd,Hid (ku 8=wd):=⟨_,Lib.hid rfl⟩
  have hwd:wd.size≤11:=by rw [← dK.out]; exact jY 8
  rw [dK.out]
  generalize dx bV xn bU aO=xt at *
  unfold bP
  dsimp only
  go_enter Tryz.func99,Tryz.ntmps99
  go_upto_region 1 with fail
  have HZ:=Lib.hid ((Sit.start w).lZ (n:=w.heap.size) rfl (.int .i64 8) (.int .i64 line) (.string nm) (.string arg) (.slice s.fH (idx).len s.dW) (.int .i64 bV) (.int .i64 xn) (.string bU) (.slice s.cB aO.len s.bF) (.slice s.bC b.len s.aV) (.slice s.eZ e.len s.dL) 89)
  generalize hW:World.alloc w _=W
  rw [hW] at HZ
  clear hW
  go_upto_region 2 with fail
  have HY:=Lib.hid (HZ.out.next (ah W (.cells #[.string ⟨#[]⟩,.string ⟨#[]⟩,.string ⟨#[105,102]⟩,.string ⟨#[119,104,105,108,101]⟩,.string ⟨#[108,111,99,107]⟩,.string ⟨#[114,101,97,100]⟩,.string ⟨#[119,114,105,116,101]⟩,.string ⟨#[116,114,97,110,115,97,99,116,105,111,110]⟩,.string ⟨#[97,116,111,109,105,99]⟩,.string ⟨#[119,97,105,116]⟩,.string ⟨#[110,111,116,105,102,121]⟩,.string ⟨#[110,111,116,105,102,121,97,108,108]⟩,.string ⟨#[115,112,97,119,110]⟩,.string ⟨#[106,111,105,110]⟩,.string ⟨#[115,101,116]⟩,.string ⟨#[103,101,116]⟩] 9)))
  have dM:=Lib.hid (heap_alloc_new W (.cells #[.string ⟨#[]⟩,.string ⟨#[]⟩,.string ⟨#[105,102]⟩,.string ⟨#[119,104,105,108,101]⟩,.string ⟨#[108,111,99,107]⟩,.string ⟨#[114,101,97,100]⟩,.string ⟨#[119,114,105,116,101]⟩,.string ⟨#[116,114,97,110,115,97,99,116,105,111,110]⟩,.string ⟨#[97,116,111,109,105,99]⟩,.string ⟨#[119,97,105,116]⟩,.string ⟨#[110,111,116,105,102,121]⟩,.string ⟨#[110,111,116,105,102,121,97,108,108]⟩,.string ⟨#[115,112,97,119,110]⟩,.string ⟨#[106,111,105,110]⟩,.string ⟨#[115,101,116]⟩,.string ⟨#[103,101,116]⟩] 9))
  generalize hW:World.alloc W _=W1
  rw [hW] at HY dM
  clear hW HZ
  have cw:W1.cell? ⟨W.heap.size,8,none⟩=some (.string wd):=by rw [← dK.out]; exact aj dM.out rfl
  obtain ⟨wb,hwb⟩: ∃g,W.heap.size=g:=⟨_,rfl⟩
  rw [hwb] at cw ⊢
  clear dM hwb
  obtain ⟨-,⟨-,c0⟩,⟨-,c1⟩,⟨-,c2⟩,⟨-,c3⟩,⟨-,c4⟩,⟨-,c5⟩,⟨-,c6⟩,⟨-,c7⟩,⟨-,c8⟩,⟨-,c9⟩,⟨-,c10⟩,-⟩:=HY.out
  go_wp2_with fail
  go_ret
  exact ⟨rfl,HY.out.1⟩
 ·have HE:Hid (iA ⟨9,line,nm,arg,idx,bV,xn,bU,aO⟩=((ku 9++⟨#[32]⟩)++nm)++⟨#[59]⟩):=Lib.hid rfl
  rw [HE.out]
  clear HE HX
  obtain ⟨wd,dK⟩: ∃wd,Hid (ku 9=wd):=⟨_,Lib.hid rfl⟩
  have hwd:wd.size≤11:=by rw [← dK.out]; exact jY 9
  rw [dK.out]
  generalize dx bV xn bU aO=xt at *
  unfold bP
  dsimp only
  go_enter Tryz.func99,Tryz.ntmps99
  go_upto_region 1 with fail
  have HZ:=Lib.hid ((Sit.start w).lZ (n:=w.heap.size) rfl (.int .i64 9) (.int .i64 line) (.string nm) (.string arg) (.slice s.fH (idx).len s.dW) (.int .i64 bV) (.int .i64 xn) (.string bU) (.slice s.cB aO.len s.bF) (.slice s.bC b.len s.aV) (.slice s.eZ e.len s.dL) 89)
  generalize hW:World.alloc w _=W
  rw [hW] at HZ
  clear hW
  go_upto_region 2 with fail
  have HY:=Lib.hid (HZ.out.next (ah W (.cells #[.string ⟨#[]⟩,.string ⟨#[]⟩,.string ⟨#[105,102]⟩,.string ⟨#[119,104,105,108,101]⟩,.string ⟨#[108,111,99,107]⟩,.string ⟨#[114,101,97,100]⟩,.string ⟨#[119,114,105,116,101]⟩,.string ⟨#[116,114,97,110,115,97,99,116,105,111,110]⟩,.string ⟨#[97,116,111,109,105,99]⟩,.string ⟨#[119,97,105,116]⟩,.string ⟨#[110,111,116,105,102,121]⟩,.string ⟨#[110,111,116,105,102,121,97,108,108]⟩,.string ⟨#[115,112,97,119,110]⟩,.string ⟨#[106,111,105,110]⟩,.string ⟨#[115,101,116]⟩,.string ⟨#[103,101,116]⟩] 9)))
  have dM:=Lib.hid (heap_alloc_new W (.cells #[.string ⟨#[]⟩,.string ⟨#[]⟩,.string ⟨#[105,102]⟩,.string ⟨#[119,104,105,108,101]⟩,.string ⟨#[108,111,99,107]⟩,.string ⟨#[114,101,97,100]⟩,.string ⟨#[119,114,105,116,101]⟩,.string ⟨#[116,114,97,110,115,97,99,116,105,111,110]⟩,.string ⟨#[97,116,111,109,105,99]⟩,.string ⟨#[119,97,105,116]⟩,.string ⟨#[110,111,116,105,102,121]⟩,.string ⟨#[110,111,116,105,102,121,97,108,108]⟩,.string ⟨#[115,112,97,119,110]⟩,.string ⟨#[106,111,105,110]⟩,.string ⟨#[115,101,116]⟩,.string ⟨#[103,101,116]⟩] 9))
  generalize hW:World.alloc W _=W1
  rw [hW] at HY dM
  clear hW HZ
  have cw:W1.cell? ⟨W.heap.size,9,none⟩=some (.string wd):=by rw [← dK.out]; exact aj dM.out rfl
  obtain ⟨wb,hwb⟩: ∃g,W.heap.size=g:=⟨_,rfl⟩
  rw [hwb] at cw ⊢
  clear dM hwb
  obtain ⟨-,⟨-,c0⟩,⟨-,c1⟩,⟨-,c2⟩,⟨-,c3⟩,⟨-,c4⟩,⟨-,c5⟩,⟨-,c6⟩,⟨-,c7⟩,⟨-,c8⟩,⟨-,c9⟩,⟨-,c10⟩,-⟩:=HY.out
  go_wp2_with fail
  go_ret
  exact ⟨rfl,HY.out.1⟩
 ·have HE:Hid (iA ⟨10,line,nm,arg,idx,bV,xn,bU,aO⟩=((ku 10++⟨#[32]⟩)++nm)++⟨#[59]⟩):=Lib.hid rfl
  rw [HE.out]
  clear HE HX
  obtain ⟨wd,dK⟩: ∃wd,Hid (ku 10=wd):=⟨_,Lib.hid rfl⟩
  have hwd:wd.size≤11:=by rw [← dK.out]; exact jY 10
  rw [dK.out]
  generalize dx bV xn bU aO=xt at *
  unfold bP
  dsimp only
  go_enter Tryz.func99,Tryz.ntmps99
  go_upto_region 1 with fail
  have HZ:=Lib.hid ((Sit.start w).lZ (n:=w.heap.size) rfl (.int .i64 10) (.int .i64 line) (.string nm) (.string arg) (.slice s.fH (idx).len s.dW) (.int .i64 bV) (.int .i64 xn) (.string bU) (.slice s.cB aO.len s.bF) (.slice s.bC b.len s.aV) (.slice s.eZ e.len s.dL) 89)
  generalize hW:World.alloc w _=W
  rw [hW] at HZ
  clear hW
  go_upto_region 2 with fail
  have HY:=Lib.hid (HZ.out.next (ah W (.cells #[.string ⟨#[]⟩,.string ⟨#[]⟩,.string ⟨#[105,102]⟩,.string ⟨#[119,104,105,108,101]⟩,.string ⟨#[108,111,99,107]⟩,.string ⟨#[114,101,97,100]⟩,.string ⟨#[119,114,105,116,101]⟩,.string ⟨#[116,114,97,110,115,97,99,116,105,111,110]⟩,.string ⟨#[97,116,111,109,105,99]⟩,.string ⟨#[119,97,105,116]⟩,.string ⟨#[110,111,116,105,102,121]⟩,.string ⟨#[110,111,116,105,102,121,97,108,108]⟩,.string ⟨#[115,112,97,119,110]⟩,.string ⟨#[106,111,105,110]⟩,.string ⟨#[115,101,116]⟩,.string ⟨#[103,101,116]⟩] 9)))
  have dM:=Lib.hid (heap_alloc_new W (.cells #[.string ⟨#[]⟩,.string ⟨#[]⟩,.string ⟨#[105,102]⟩,.string ⟨#[119,104,105,108,101]⟩,.string ⟨#[108,111,99,107]⟩,.string ⟨#[114,101,97,100]⟩,.string ⟨#[119,114,105,116,101]⟩,.string ⟨#[116,114,97,110,115,97,99,116,105,111,110]⟩,.string ⟨#[97,116,111,109,105,99]⟩,.string ⟨#[119,97,105,116]⟩,.string ⟨#[110,111,116,105,102,121]⟩,.string ⟨#[110,111,116,105,102,121,97,108,108]⟩,.string ⟨#[115,112,97,119,110]⟩,.string ⟨#[106,111,105,110]⟩,.string ⟨#[115,101,116]⟩,.string ⟨#[103,101,116]⟩] 9))
  generalize hW:World.alloc W _=W1
  rw [hW] at HY dM
  clear hW HZ
  have cw:W1.cell? ⟨W.heap.size,10,none⟩=some (.string wd):=by rw [← dK.out]; exact aj dM.out rfl
  obtain ⟨wb,hwb⟩: ∃g,W.heap.size=g:=⟨_,rfl⟩
  rw [hwb] at cw ⊢
  clear dM hwb
  obtain ⟨-,⟨-,c0⟩,⟨-,c1⟩,⟨-,c2⟩,⟨-,c3⟩,⟨-,c4⟩,⟨-,c5⟩,⟨-,c6⟩,⟨-,c7⟩,⟨-,c8⟩,⟨-,c9⟩,⟨-,c10⟩,-⟩:=HY.out
  go_wp2_with fail
  go_ret
  exact ⟨rfl,HY.out.1⟩
 ·have HE:Hid (iA ⟨11,line,nm,arg,idx,bV,xn,bU,aO⟩=((ku 11++⟨#[32]⟩)++nm)++⟨#[59]⟩):=Lib.hid rfl
  rw [HE.out]
  clear HE HX
  obtain ⟨wd,dK⟩: ∃wd,Hid (ku 11=wd):=⟨_,Lib.hid rfl⟩
  have hwd:wd.size≤11:=by rw [← dK.out]; exact jY 11
  rw [dK.out]
  generalize dx bV xn bU aO=xt at *
  unfold bP
  dsimp only
  go_enter Tryz.func99,Tryz.ntmps99
  go_upto_region 1 with fail
  have HZ:=Lib.hid ((Sit.start w).lZ (n:=w.heap.size) rfl (.int .i64 11) (.int .i64 line) (.string nm) (.string arg) (.slice s.fH (idx).len s.dW) (.int .i64 bV) (.int .i64 xn) (.string bU) (.slice s.cB aO.len s.bF) (.slice s.bC b.len s.aV) (.slice s.eZ e.len s.dL) 89)
  generalize hW:World.alloc w _=W
  rw [hW] at HZ
  clear hW
  go_upto_region 2 with fail
  have HY:=Lib.hid (HZ.out.next (ah W (.cells #[.string ⟨#[]⟩,.string ⟨#[]⟩,.string ⟨#[105,102]⟩,.string ⟨#[119,104,105,108,101]⟩,.string ⟨#[108,111,99,107]⟩,.string ⟨#[114,101,97,100]⟩,.string ⟨#[119,114,105,116,101]⟩,.string ⟨#[116,114,97,110,115,97,99,116,105,111,110]⟩,.string ⟨#[97,116,111,109,105,99]⟩,.string ⟨#[119,97,105,116]⟩,.string ⟨#[110,111,116,105,102,121]⟩,.string ⟨#[110,111,116,105,102,121,97,108,108]⟩,.string ⟨#[115,112,97,119,110]⟩,.string ⟨#[106,111,105,110]⟩,.string ⟨#[115,101,116]⟩,.string ⟨#[103,101,116]⟩] 9)))
  have dM:=Lib.hid (heap_alloc_new W (.cells #[.string ⟨#[]⟩,.string ⟨#[]⟩,.string ⟨#[105,102]⟩,.string ⟨#[119,104,105,108,101]⟩,.string ⟨#[108,111,99,107]⟩,.string ⟨#[114,101,97,100]⟩,.string ⟨#[119,114,105,116,101]⟩,.string ⟨#[116,114,97,110,115,97,99,116,105,111,110]⟩,.string ⟨#[97,116,111,109,105,99]⟩,.string ⟨#[119,97,105,116]⟩,.string ⟨#[110,111,116,105,102,121]⟩,.string ⟨#[110,111,116,105,102,121,97,108,108]⟩,.string ⟨#[115,112,97,119,110]⟩,.string ⟨#[106,111,105,110]⟩,.string ⟨#[115,101,116]⟩,.string ⟨#[103,101,116]⟩] 9))
  generalize hW:World.alloc W _=W1
  rw [hW] at HY dM
  clear hW HZ
  have cw:W1.cell? ⟨W.heap.size,11,none⟩=some (.string wd):=by rw [← dK.out]; exact aj dM.out rfl
  obtain ⟨wb,hwb⟩: ∃g,W.heap.size=g:=⟨_,rfl⟩
  rw [hwb] at cw ⊢
  clear dM hwb
  obtain ⟨-,⟨-,c0⟩,⟨-,c1⟩,⟨-,c2⟩,⟨-,c3⟩,⟨-,c4⟩,⟨-,c5⟩,⟨-,c6⟩,⟨-,c7⟩,⟨-,c8⟩,⟨-,c9⟩,⟨-,c10⟩,-⟩:=HY.out
  go_wp2_with fail
  go_ret
  exact ⟨rfl,HY.out.1⟩
 ·have HE:Hid (iA ⟨12,line,nm,arg,idx,bV,xn,bU,aO⟩=((ku 12++⟨#[32]⟩)++nm)++⟨#[59]⟩):=Lib.hid rfl
  rw [HE.out]
  clear HE HX
  obtain ⟨wd,dK⟩: ∃wd,Hid (ku 12=wd):=⟨_,Lib.hid rfl⟩
  have hwd:wd.size≤11:=by rw [← dK.out]; exact jY 12
  rw [dK.out]
  generalize dx bV xn bU aO=xt at *
  unfold bP
  dsimp only
  go_enter Tryz.func99,Tryz.ntmps99
  go_upto_region 1 with fail
  have HZ:=Lib.hid ((Sit.start w).lZ (n:=w.heap.size) rfl (.int .i64 12) (.int .i64 line) (.string nm) (.string arg) (.slice s.fH (idx).len s.dW) (.int .i64 bV) (.int .i64 xn) (.string bU) (.slice s.cB aO.len s.bF) (.slice s.bC b.len s.aV) (.slice s.eZ e.len s.dL) 89)
  generalize hW:World.alloc w _=W
  rw [hW] at HZ
  clear hW
  go_upto_region 2 with fail
  have HY:=Lib.hid (HZ.out.next (ah W (.cells #[.string ⟨#[]⟩,.string ⟨#[]⟩,.string ⟨#[105,102]⟩,.string ⟨#[119,104,105,108,101]⟩,.string ⟨#[108,111,99,107]⟩,.string ⟨#[114,101,97,100]⟩,.string ⟨#[119,114,105,116,101]⟩,.string ⟨#[116,114,97,110,115,97,99,116,105,111,110]⟩,.string ⟨#[97,116,111,109,105,99]⟩,.string ⟨#[119,97,105,116]⟩,.string ⟨#[110,111,116,105,102,121]⟩,.string ⟨#[110,111,116,105,102,121,97,108,108]⟩,.string ⟨#[115,112,97,119,110]⟩,.string ⟨#[106,111,105,110]⟩,.string ⟨#[115,101,116]⟩,.string ⟨#[103,101,116]⟩] 9)))
  have dM:=Lib.hid (heap_alloc_new W (.cells #[.string ⟨#[]⟩,.string ⟨#[]⟩,.string ⟨#[105,102]⟩,.string ⟨#[119,104,105,108,101]⟩,.string ⟨#[108,111,99,107]⟩,.string ⟨#[114,101,97,100]⟩,.string ⟨#[119,114,105,116,101]⟩,.string ⟨#[116,114,97,110,115,97,99,116,105,111,110]⟩,.string ⟨#[97,116,111,109,105,99]⟩,.string ⟨#[119,97,105,116]⟩,.string ⟨#[110,111,116,105,102,121]⟩,.string ⟨#[110,111,116,105,102,121,97,108,108]⟩,.string ⟨#[115,112,97,119,110]⟩,.string ⟨#[106,111,105,110]⟩,.string ⟨#[115,101,116]⟩,.string ⟨#[103,101,116]⟩] 9))
  generalize hW:World.alloc W _=W1
  rw [hW] at HY dM
  clear hW HZ
  have cw:W1.cell? ⟨W.heap.size,12,none⟩=some (.string wd):=by rw [← dK.out]; exact aj dM.out rfl
  obtain ⟨wb,hwb⟩: ∃g,W.heap.size=g:=⟨_,rfl⟩
  rw [hwb] at cw ⊢
  clear dM hwb
  obtain ⟨-,⟨-,c0⟩,⟨-,c1⟩,⟨-,c2⟩,⟨-,c3⟩,⟨-,c4⟩,⟨-,c5⟩,⟨-,c6⟩,⟨-,c7⟩,⟨-,c8⟩,⟨-,c9⟩,⟨-,c10⟩,-⟩:=HY.out
  go_wp2_with fail
  go_ret
  exact ⟨rfl,HY.out.1⟩
 ·have HE:Hid (iA ⟨13,line,nm,arg,idx,bV,xn,bU,aO⟩=((ku 13++⟨#[32]⟩)++nm)++⟨#[59]⟩):=Lib.hid rfl
  rw [HE.out]
  clear HE HX
  obtain ⟨wd,dK⟩: ∃wd,Hid (ku 13=wd):=⟨_,Lib.hid rfl⟩
  have hwd:wd.size≤11:=by rw [← dK.out]; exact jY 13
  rw [dK.out]
  generalize dx bV xn bU aO=xt at *
  unfold bP
  dsimp only
  go_enter Tryz.func99,Tryz.ntmps99
  go_upto_region 1 with fail
  have HZ:=Lib.hid ((Sit.start w).lZ (n:=w.heap.size) rfl (.int .i64 13) (.int .i64 line) (.string nm) (.string arg) (.slice s.fH (idx).len s.dW) (.int .i64 bV) (.int .i64 xn) (.string bU) (.slice s.cB aO.len s.bF) (.slice s.bC b.len s.aV) (.slice s.eZ e.len s.dL) 89)
  generalize hW:World.alloc w _=W
  rw [hW] at HZ
  clear hW
  go_upto_region 2 with fail
  have HY:=Lib.hid (HZ.out.next (ah W (.cells #[.string ⟨#[]⟩,.string ⟨#[]⟩,.string ⟨#[105,102]⟩,.string ⟨#[119,104,105,108,101]⟩,.string ⟨#[108,111,99,107]⟩,.string ⟨#[114,101,97,100]⟩,.string ⟨#[119,114,105,116,101]⟩,.string ⟨#[116,114,97,110,115,97,99,116,105,111,110]⟩,.string ⟨#[97,116,111,109,105,99]⟩,.string ⟨#[119,97,105,116]⟩,.string ⟨#[110,111,116,105,102,121]⟩,.string ⟨#[110,111,116,105,102,121,97,108,108]⟩,.string ⟨#[115,112,97,119,110]⟩,.string ⟨#[106,111,105,110]⟩,.string ⟨#[115,101,116]⟩,.string ⟨#[103,101,116]⟩] 9)))
  have dM:=Lib.hid (heap_alloc_new W (.cells #[.string ⟨#[]⟩,.string ⟨#[]⟩,.string ⟨#[105,102]⟩,.string ⟨#[119,104,105,108,101]⟩,.string ⟨#[108,111,99,107]⟩,.string ⟨#[114,101,97,100]⟩,.string ⟨#[119,114,105,116,101]⟩,.string ⟨#[116,114,97,110,115,97,99,116,105,111,110]⟩,.string ⟨#[97,116,111,109,105,99]⟩,.string ⟨#[119,97,105,116]⟩,.string ⟨#[110,111,116,105,102,121]⟩,.string ⟨#[110,111,116,105,102,121,97,108,108]⟩,.string ⟨#[115,112,97,119,110]⟩,.string ⟨#[106,111,105,110]⟩,.string ⟨#[115,101,116]⟩,.string ⟨#[103,101,116]⟩] 9))
  generalize hW:World.alloc W _=W1
  rw [hW] at HY dM
  clear hW HZ
  have cw:W1.cell? ⟨W.heap.size,13,none⟩=some (.string wd):=by rw [← dK.out]; exact aj dM.out rfl
  obtain ⟨wb,hwb⟩: ∃g,W.heap.size=g:=⟨_,rfl⟩
  rw [hwb] at cw ⊢
  clear dM hwb
  obtain ⟨-,⟨-,c0⟩,⟨-,c1⟩,⟨-,c2⟩,⟨-,c3⟩,⟨-,c4⟩,⟨-,c5⟩,⟨-,c6⟩,⟨-,c7⟩,⟨-,c8⟩,⟨-,c9⟩,⟨-,c10⟩,-⟩:=HY.out
  go_wp2_with fail
  go_ret
  exact ⟨rfl,HY.out.1⟩
 ·have iT:=Lib.hid (HX.out rfl)
  have HE:Hid (iA ⟨14,line,nm,arg,idx,bV,xn,bU,aO⟩=((((ku 14++⟨#[32]⟩)++nm)++⟨#[32]⟩)++dx bV xn bU aO)++⟨#[59]⟩):=Lib.hid rfl
  rw [HE.out]
  clear HE HX
  have hxz:=Oa.out
  obtain ⟨wd,dK⟩: ∃wd,Hid (ku 14=wd):=⟨_,Lib.hid rfl⟩
  have hwd:wd.size≤11:=by rw [← dK.out]; exact jY 14
  rw [dK.out]
  generalize dx bV xn bU aO=xt at *
  unfold bP
  dsimp only
  go_enter Tryz.func99,Tryz.ntmps99
  go_upto_region 1 with fail
  have HZ:=Lib.hid ((Sit.start w).lZ (n:=w.heap.size) rfl (.int .i64 14) (.int .i64 line) (.string nm) (.string arg) (.slice s.fH (idx).len s.dW) (.int .i64 bV) (.int .i64 xn) (.string bU) (.slice s.cB aO.len s.bF) (.slice s.bC b.len s.aV) (.slice s.eZ e.len s.dL) 89)
  generalize hW:World.alloc w _=W
  rw [hW] at HZ
  clear hW
  go_upto_region 2 with fail
  have HY:=Lib.hid (HZ.out.next (ah W (.cells #[.string ⟨#[]⟩,.string ⟨#[]⟩,.string ⟨#[105,102]⟩,.string ⟨#[119,104,105,108,101]⟩,.string ⟨#[108,111,99,107]⟩,.string ⟨#[114,101,97,100]⟩,.string ⟨#[119,114,105,116,101]⟩,.string ⟨#[116,114,97,110,115,97,99,116,105,111,110]⟩,.string ⟨#[97,116,111,109,105,99]⟩,.string ⟨#[119,97,105,116]⟩,.string ⟨#[110,111,116,105,102,121]⟩,.string ⟨#[110,111,116,105,102,121,97,108,108]⟩,.string ⟨#[115,112,97,119,110]⟩,.string ⟨#[106,111,105,110]⟩,.string ⟨#[115,101,116]⟩,.string ⟨#[103,101,116]⟩] 9)))
  have dM:=Lib.hid (heap_alloc_new W (.cells #[.string ⟨#[]⟩,.string ⟨#[]⟩,.string ⟨#[105,102]⟩,.string ⟨#[119,104,105,108,101]⟩,.string ⟨#[108,111,99,107]⟩,.string ⟨#[114,101,97,100]⟩,.string ⟨#[119,114,105,116,101]⟩,.string ⟨#[116,114,97,110,115,97,99,116,105,111,110]⟩,.string ⟨#[97,116,111,109,105,99]⟩,.string ⟨#[119,97,105,116]⟩,.string ⟨#[110,111,116,105,102,121]⟩,.string ⟨#[110,111,116,105,102,121,97,108,108]⟩,.string ⟨#[115,112,97,119,110]⟩,.string ⟨#[106,111,105,110]⟩,.string ⟨#[115,101,116]⟩,.string ⟨#[103,101,116]⟩] 9))
  generalize hW:World.alloc W _=W1
  rw [hW] at HY dM
  clear hW HZ
  have cw:W1.cell? ⟨W.heap.size,14,none⟩=some (.string wd):=by rw [← dK.out]; exact aj dM.out rfl
  obtain ⟨wb,hwb⟩: ∃g,W.heap.size=g:=⟨_,rfl⟩
  rw [hwb] at cw ⊢
  clear dM hwb
  obtain ⟨-,⟨-,c0⟩,⟨-,c1⟩,⟨-,c2⟩,⟨-,c3⟩,⟨-,c4⟩,⟨-,c5⟩,⟨-,c6⟩,⟨-,c7⟩,⟨-,c8⟩,⟨-,c9⟩,⟨-,c10⟩,-⟩:=HY.out
  go_upto_region 20 with fail
  obtain ⟨T,F,D7,hst,hF,hnext⟩:=calm W1
  have HF:=Lib.hid hF
  have gL:=Lib.hid hnext
  clear hnext hF
  have d0:=fun x=>(HY.out.next (HF.out x)).2.1.2
  have d1:=fun x=>(HY.out.next (HF.out x)).2.2.1.2
  have d2:=fun x=>(HY.out.next (HF.out x)).2.2.2.1.2
  have d3:=fun x=>(HY.out.next (HF.out x)).2.2.2.2.1.2
  have d4:=fun x=>(HY.out.next (HF.out x)).2.2.2.2.2.1.2
  have d5:=fun x=>(HY.out.next (HF.out x)).2.2.2.2.2.2.1.2
  have d6:=fun x=>(HY.out.next (HF.out x)).2.2.2.2.2.2.2.1.2
  have d7:=fun x=>(HY.out.next (HF.out x)).2.2.2.2.2.2.2.2.1.2
  have d8:=fun x=>(HY.out.next (HF.out x)).2.2.2.2.2.2.2.2.2.1.2
  have d9:=fun x=>(HY.out.next (HF.out x)).2.2.2.2.2.2.2.2.2.2.1.2
  have iJ:=fun x=>(HY.out.next (HF.out x)).2.2.2.2.2.2.2.2.2.2.2.1.2
  clear c0 c1 c2 c3 c4 c5 c6 c7 c8 c9 c10
  refine lJ F (by kernel_rfl) (by kernel_rfl) hst ?_
  repeat (any_goals (first | go_big_quiet_step ((go_at_call 19; refine (iT.out _ (HY.out.1.trans ((HF.out _).mono HY.out.1.size))).mono ?_; rintro e' w' ⟨rfl,hb⟩; exact ⟨rfl,gL.out _ _ hb⟩)) | (refine wpQuiet_step (fun K hK=> ?_); go_simp; first | (refine hK _ ?_; clear hK K) | (split <;> first | (refine hK _ ?_; clear hK K) | (apply Exists.intro; refine ⟨fun _=> ?_,hK _ ?_⟩; ((go_at_call 19; refine (iT.out _ (HY.out.1.trans ((HF.out _).mono HY.out.1.size))).mono ?_; rintro e' w' ⟨rfl,hb⟩; exact ⟨rfl,gL.out _ _ hb⟩)); clear hK K)))))
  all_goals (refine wpQuiet_nil ?_; rintro _ ⟨x,rfl⟩)
  have HB:=Lib.hid (HY.out.1.trans ((HF.out x).mono HY.out.1.size))
  clear d0 d1 d2 d3 d4 d5 d6 d7 d8 d9 iJ HF gL hst
  generalize F x=W3 at *
  go_wp2_with fail
  go_ret
  exact ⟨rfl,HB.out⟩
 ·have HE:Hid (iA ⟨15,line,nm,arg,idx,bV,xn,bU,aO⟩=((((ku 15++⟨#[32]⟩)++nm)++⟨#[32]⟩)++arg)++⟨#[59]⟩):=Lib.hid rfl
  rw [HE.out]
  clear HE HX
  obtain ⟨wd,dK⟩: ∃wd,Hid (ku 15=wd):=⟨_,Lib.hid rfl⟩
  have hwd:wd.size≤11:=by rw [← dK.out]; exact jY 15
  rw [dK.out]
  generalize dx bV xn bU aO=xt at *
  unfold bP
  dsimp only
  go_enter Tryz.func99,Tryz.ntmps99
  go_upto_region 1 with fail
  have HZ:=Lib.hid ((Sit.start w).lZ (n:=w.heap.size) rfl (.int .i64 15) (.int .i64 line) (.string nm) (.string arg) (.slice s.fH (idx).len s.dW) (.int .i64 bV) (.int .i64 xn) (.string bU) (.slice s.cB aO.len s.bF) (.slice s.bC b.len s.aV) (.slice s.eZ e.len s.dL) 89)
  generalize hW:World.alloc w _=W
  rw [hW] at HZ
  clear hW
  go_upto_region 2 with fail
  have HY:=Lib.hid (HZ.out.next (ah W (.cells #[.string ⟨#[]⟩,.string ⟨#[]⟩,.string ⟨#[105,102]⟩,.string ⟨#[119,104,105,108,101]⟩,.string ⟨#[108,111,99,107]⟩,.string ⟨#[114,101,97,100]⟩,.string ⟨#[119,114,105,116,101]⟩,.string ⟨#[116,114,97,110,115,97,99,116,105,111,110]⟩,.string ⟨#[97,116,111,109,105,99]⟩,.string ⟨#[119,97,105,116]⟩,.string ⟨#[110,111,116,105,102,121]⟩,.string ⟨#[110,111,116,105,102,121,97,108,108]⟩,.string ⟨#[115,112,97,119,110]⟩,.string ⟨#[106,111,105,110]⟩,.string ⟨#[115,101,116]⟩,.string ⟨#[103,101,116]⟩] 9)))
  have dM:=Lib.hid (heap_alloc_new W (.cells #[.string ⟨#[]⟩,.string ⟨#[]⟩,.string ⟨#[105,102]⟩,.string ⟨#[119,104,105,108,101]⟩,.string ⟨#[108,111,99,107]⟩,.string ⟨#[114,101,97,100]⟩,.string ⟨#[119,114,105,116,101]⟩,.string ⟨#[116,114,97,110,115,97,99,116,105,111,110]⟩,.string ⟨#[97,116,111,109,105,99]⟩,.string ⟨#[119,97,105,116]⟩,.string ⟨#[110,111,116,105,102,121]⟩,.string ⟨#[110,111,116,105,102,121,97,108,108]⟩,.string ⟨#[115,112,97,119,110]⟩,.string ⟨#[106,111,105,110]⟩,.string ⟨#[115,101,116]⟩,.string ⟨#[103,101,116]⟩] 9))
  generalize hW:World.alloc W _=W1
  rw [hW] at HY dM
  clear hW HZ
  have cw:W1.cell? ⟨W.heap.size,15,none⟩=some (.string wd):=by rw [← dK.out]; exact aj dM.out rfl
  obtain ⟨wb,hwb⟩: ∃g,W.heap.size=g:=⟨_,rfl⟩
  rw [hwb] at cw ⊢
  clear dM hwb
  obtain ⟨-,⟨-,c0⟩,⟨-,c1⟩,⟨-,c2⟩,⟨-,c3⟩,⟨-,c4⟩,⟨-,c5⟩,⟨-,c6⟩,⟨-,c7⟩,⟨-,c8⟩,⟨-,c9⟩,⟨-,c10⟩,-⟩:=HY.out
  go_wp2_with fail
  go_ret
  exact ⟨rfl,HY.out.1⟩
end Go.Proofs.YtehnipchbmjlhaaGreatDoor
end
section
namespace Go.Proofs.YtehnipchbmjlhaaGreatDoor
open Go.RowKit
open Md Fm
def mV:aS→Nat
 | .nil=>0
 | .cons _ b e r=>1 + mV b + mV e + mV r
theorem wE: ∀l:aS,200 * mV l≤jU l
 | .nil=>Nat.le_refl _
 | .cons h b e r=>by
   have h1:=wE b
   have h2:=wE e
   have h3:=wE r
   have h4:200≤vJ h:=by unfold vJ; omega
   simp only [mV,jU]; omega
theorem VN {w:World} {B:Nat} (h:bf) {ao:Option Addr} (hi:h.idx.At w B ao 0):(Zb h).size≤rD h.idx + 2:=by
 unfold Zb
 cases hx:h.idx with
 | nil=>exact Nat.zero_le _
 | cons op n nm kids r=>
   rw [hx] at hi
   obtain ⟨⟨b,off,jf,cap,e,hB,c0,c1,c2,c3,hok,hk⟩,hr⟩:=hi
   have:=lF op n nm hok.2.1 hk
   unfold mF at this
   dsimp only
   simp only [ByteArray.size_append,rD]; rw [show (⟨#[91]⟩:ByteArray).size=1 from rfl,show (⟨#[93]⟩:ByteArray).size=1 from rfl]; omega
theorem head_size {w:World} {B:Nat} (h:bf) {ao jf:Option Addr} (hi:h.idx.At w B ao 0) (hn:aM h.xn) (hk:h.aO.At w B jf 0):(iA h).size + 100≤vJ h:=by
 have h1:=VN h hi
 have h2:(xB h).size≤mF h.bU h.aO:=lF _ _ _ hn hk
 have h3:=jY h.op
 have e1:(⟨#[32,61,32]⟩:ByteArray).size=3:=rfl
 have e2:(⟨#[59]⟩:ByteArray).size=1:=rfl
 have e3:(⟨#[32]⟩:ByteArray).size=1:=rfl
 have e4:(⟨#[32,123]⟩:ByteArray).size=2:=rfl
 unfold iA vJ
 split
 ·simp only [ByteArray.size_append,e1,e2]; omega
 ·split
  ·simp only [ByteArray.size_append,e3,e4]; omega
  ·split
   ·simp only [ByteArray.size_append,e3,e4]; omega
   ·split
    ·simp only [ByteArray.size_append,e4]; omega
    ·split
     ·simp only [ByteArray.size_append,e2,e3]; omega
     ·split
      ·simp only [ByteArray.size_append,e2,e3]; omega
      ·simp only [ByteArray.size_append,e2,e3]; omega
theorem SA (d:Nat) (h:bf) (b e:ByteArray) (ne:Bool):(Lx d h b e ne).size≤6 * d + (iA h).size + b.size + e.size + 20:=by
 have e1:(⟨#[10]⟩:ByteArray).size=1:=rfl
 have e2:(⟨#[125,10]⟩:ByteArray).size=2:=rfl
 have e3:UG.size=9:=rfl
 unfold Lx
 split
 ·exact Nat.zero_le _
 ·split
  ·simp only [ByteArray.size_append,uT,e1]; omega
  ·split
   ·simp only [ByteArray.size_append,uT,e1,e2]; omega
   ·simp only [ByteArray.size_append,uT,e1,e2,e3]; omega
theorem zn {w:World} {B:Nat} : ∀ {l:aS} {ao:Option Addr} {k:Nat} (d:Nat),l.At w B ao k→(nE l d).size≤jU l + 6 * d * mV l
 | .nil,_,_,_,_=>Nat.zero_le _
 | .cons h b e r,ao,k,d,hat=>by
   obtain ⟨⟨bl,off,fH,dW,cB,bF,bC,aV,eZ,dL,eq,hB,c0,c1,c2,c3,c4,c5,c6,c7,c8,c9,c10,hok,h1,h2,h3,h4⟩,hr⟩:=hat
   have s1:=zn (d + 1) h3
   have s2:=zn (d + 1) h4
   have s3:=zn d hr
   have s4:=head_size h h1 hok.2.2.2.2.2.1.2.1 h2
   have s5:=SA d h (nE b (d + 1)) (nE e (d + 1)) (EO e)
   have k1:=wE b
   have k2:=wE e
   have m1:6 * (d + 1) * mV b=6 * d * mV b + 6 * mV b:=by rw [Nat.mul_add,Nat.add_mul]
   have m2:6 * (d + 1) * mV e=6 * d * mV e + 6 * mV e:=by rw [Nat.mul_add,Nat.add_mul]
   have m3:6 * d * (1 + mV b + mV e + mV r)=6 * d + 6 * d * mV b + 6 * d * mV e + 6 * d * mV r:=by rw [Nat.mul_add,Nat.mul_add,Nat.mul_add,Nat.mul_one]
   simp only [nE,mV,jU,ByteArray.size_append]
   rw [m3]
   omega
end Go.Proofs.YtehnipchbmjlhaaGreatDoor
end
section
namespace Go.Proofs.YtehnipchbmjlhaaGreatDoor
open Go.RowKit
open Md Fm
def Ar (h:bf) (b e:aS):Prop:=
 ∀(w:World) (s:Sl) (d:Nat),Dn w h b e s→uq h b e=true→2 ^ d * (vJ h + 2 * jU b + 2 * jU e)≤2 ^ 50→kQ w→
  Calls Tryz.prog 61 #[bP h b e s,.int .i64 (d:Int)] w fun e' w'=>e'= .returned (.string (OB d h b e))∧Below w.heap.size w w'
def Qg (l:aS):Prop:=
 ∀(w:World) (ao:Option Addr) (cap d:Nat),l.len≤maxLen→jd l=true→2 ^ d * jU l≤2 ^ 50→l.At w w.heap.size ao 0→kQ w→
  Calls Tryz.prog 31 #[.slice ao l.len cap,.int .i64 (d:Int)] w fun e' w'=>e'= .returned (.string (nE l d))∧Below w.heap.size w w'
theorem ZB {d q:Nat} (hq:1≤q) (h:2 ^ d * q≤2 ^ 50):d≤50:=by
 have h1:2 ^ d≤2 ^ 50:=Nat.le_trans (Nat.le_mul_of_pos_right _ hq) h
 exact (Nat.pow_le_pow_iff_right (by decide)).1 h1
theorem Zl {d q:Nat} (h:2 ^ d * q≤2 ^ 50):q≤1125899906842624:=by
 have h1:0 < 2 ^ d:=Nat.pow_pos (by decide)
 have h2:q≤2 ^ d * q:=Nat.le_mul_of_pos_left _ h1
 have h3:(2:Nat) ^ 50=1125899906842624:=by decide
 omega
theorem V3 {h:bf} {b e r:aS} :1≤jU (.cons h b e r):=by
 simp only [jU,vJ]; omega
theorem ND {w:World} {B:Nat} {l:aS} {ao:Option Addr} {k d:Nat} (h:l.At w B ao k) (hq:2 ^ d * jU l≤2 ^ 50):(nE l d).size≤4503599627370496:=by
 cases l with
 | nil=>exact Nat.zero_le _
 | cons hh b e r=>
   have h1:=zn d h
   have h2:=wE (.cons hh b e r)
   have h3:=ZB V3 hq
   have h4:=Zl hq
   generalize mV (.cons hh b e r)=c at *
   generalize jU (.cons hh b e r)=q at *
   have h5:6 * d * c≤300 * c:=Nat.mul_le_mul_right _ (by omega)
   omega
theorem kP (a b c:ByteArray):(a++b)++c=a++(b++c):=by
 apply ByteArray.ext; simp
theorem wW (a:ByteArray):(⟨#[]⟩:ByteArray)++a=a:=by
 apply ByteArray.ext; simp
theorem oz (a:ByteArray):a++(⟨#[]⟩:ByteArray)=a:=by
 apply ByteArray.ext; simp
theorem BD (l:aS) (ih:l.All Ar):Qg l:=by
 intro w ao cap d hl hsh hq hat hp
 unfold maxLen at hl
 have iD:=Lib.hid (ND hat hq)
 have jr:=Lib.hid hp
 obtain ⟨res,fG⟩: ∃res,Hid (nE l d=res):=⟨_,Lib.hid rfl⟩
 rw [fG.out] at iD ⊢
 clear hp
 go_enter Tryz.func31,Tryz.ntmps31
 go_wp2_with fail
 go_loopw [5,6] (fun s i wr=> ∃(k:Nat) (R:aS) (t:ByteArray),i= .int .i64 k∧s= .string t∧k + R.len=l.len∧t++nE R d=res∧jd R=true∧2 ^ d * jU R≤2 ^ 50∧R.All Ar∧R.At wr wr.heap.size ao k∧Below w.heap.size w wr) (fun _ i _=>l.len - (intOf i).toNat)
 case atStart=>exact ⟨0,l,⟨#[]⟩,rfl,rfl,by simp,by rw [wW]; exact fG.out,hsh,hq,ih,hat,Below.refl _ _⟩
 case round=>
  obtain ⟨k,R,t,rfl,rfl,hlen,heq,hsr,hqr,hall,hrow,hB⟩:=hrel
  have HE:=Lib.hid heq
  have HB:=Lib.hid hB
  clear heq hsh hq ih hat hB
  cases R with
  | nil=>
    obtain rfl:k=l.len:=by simpa [aS.len] using hlen
    have HT:Hid (t=res):=Lib.hid (by rw [← HE.out]; exact (oz t).symm)
    go_wp2_with fail
    go_ret
    exact ⟨by rw [← HT.out]; rfl,HB.out⟩
  | cons h b e R=>
    obtain ⟨bl,off,s,rfl,hbl,hin,x0,x1,x2,x3,x4,x5,x6,x7,x8,x9,x10,hrest⟩:=aS.At.head hrow
    obtain ⟨zL,xw⟩:=hall
    have hkl:k < l.len:=by simp only [aS.len] at hlen; omega
    rw [zq,Bool.and_eq_true] at hsr
    have hq1:2 ^ d * (vJ h + 2 * jU b + 2 * jU e)≤2 ^ 50:=Nat.le_trans (Nat.mul_le_mul_left _ (by simp only [jU]; omega)) hqr
    have hq2:2 ^ d * jU R≤2 ^ 50:=Nat.le_trans (Nat.mul_le_mul_left _ (by simp only [jU]; omega)) hqr
    have HC:=Lib.hid (zL wr s d hin hsr.1 hq1 (jr.out.next HB.out))
    have HE2:Hid (res=(t++OB d h b e)++nE R d):=Lib.hid (by rw [← HE.out,kP]; rfl)
    have hts:t.size + (OB d h b e).size≤4503599627370496:=by
     have:=iD.out
     rw [HE2.out] at this
     simp only [ByteArray.size_append] at this
     omega
    have HR:=Lib.hid (And.intro hrest (And.intro hq2 (And.intro hsr.2 xw)))
    have HLEN:=Lib.hid hlen
    generalize OB d h b e=st at *
    have ht1:t.size≤4503599627370496:=by omega
    have ht2:st.size≤4503599627370496:=by omega
    clear hrow hin hq1 hq2 hqr hsr zL xw hrest hlen HE hts
    go_wp2_with fail
    refine HC.out.mono ?_
    rintro e' w2 ⟨rfl,hb2⟩
    have HB3:=Lib.hid hb2
    clear hb2 x0 x1 x2 x3 x4 x5 x6 x7 x8 x9 x10
    go_wp2_with fail
    go_roundw
    case rel=>exact ⟨k + 1,R,t++st,by go_num,rfl,by have:=HLEN.out; simp only [aS.len] at this; omega,HE2.out.symm,HR.out.2.2.1,HR.out.2.1,HR.out.2.2.2,HR.out.1.same HB3.out,HB.out.trans (HB3.out.mono HB.out.size)⟩
    case measure=>simp [intOf]; omega
theorem Sm (op line:Int) (nm arg:ByteArray) (idx:aZ) (bV xn:Int) (bU:ByteArray) (aO:aZ) (b e:aS) (s:Sl):(Value.agg #[.int .i64 op,.int .i64 line,.string nm,.string arg,.slice s.fH idx.len s.dW,.int .i64 bV,.int .i64 xn,.string bU,.slice s.cB aO.len s.bF,.slice s.bC b.len s.aV,.slice s.eZ e.len s.dL])=bP ⟨op,line,nm,arg,idx,bV,xn,bU,aO⟩ b e s:=rfl
theorem ak7 (d:Nat):max (d:Int) 0=(d:Int):=by omega
theorem Mt (h:bf) (b e:aS) (ihb:b.All Ar) (Ow:e.All Ar):Ar h b e:=by
 intro w s d hin hsh hq hp
 have ax5:d≤50:=ZB (by unfold vJ; omega) hq
 have ap0:=Zl hq
 have vV:=Lib.hid (BD b ihb)
 have Ji:=Lib.hid (BD e Ow)
 have hs1:kG h b.len e.len=true∧jd b=true∧jd e=true:=by
  unfold uq at hsh; simp only [Bool.and_eq_true] at hsh; exact hsh
 have Yw:2 ^ (d + 1) * jU b≤2 ^ 50:=Nat.le_trans (by rw [Nat.pow_succ,Nat.mul_assoc]; exact Nat.mul_le_mul_left _ (by omega)) hq
 have hqe:2 ^ (d + 1) * jU e≤2 ^ 50:=Nat.le_trans (by rw [Nat.pow_succ,Nat.mul_assoc]; exact Nat.mul_le_mul_left _ (by omega)) hq
 have hop:=shO hs1.1
 have lU:=Lib.hid (fun w' hb=>Ry h b e s w' (hin.same hb) hs1.1 (by omega) (hp.next hb))
 have qB:=Lib.hid (fun w' hb=>vV.out w' s.bC s.aV (d + 1) hin.1.2.2.2.2.2.2.1 hs1.2.1 Yw (hin.same hb).2.2.2.1 (hp.next hb))
 have HCE:=Lib.hid (fun w' hb=>Ji.out w' s.eZ s.dL (d + 1) hin.1.2.2.2.2.2.2.2 hs1.2.2 hqe (hin.same hb).2.2.2.2 (hp.next hb))
 have hz1:(iA h).size≤4503599627370496:=by have:=head_size h hin.2.1 hin.1.2.2.2.2.2.1.2.1 hin.2.2.1; omega
 have hz2:(nE b (d + 1)).size≤4503599627370496:=ND hin.2.2.2.1 Yw
 have hz3:(nE e (d + 1)).size≤4503599627370496:=ND hin.2.2.2.2 hqe
 have hz4:(oF d).size≤100:=by rw [uT]; omega
 obtain ⟨res,fG⟩: ∃res,Hid (OB d h b e=res):=⟨_,Lib.hid rfl⟩
 have Et:Hid (res=Lx d h (nE b (d + 1)) (nE e (d + 1)) (EO e)):=Lib.hid fG.out.symm
 have ao7:=Lib.hid (fun w=>Nf d (by omega) w)
 rw [fG.out]
 clear fG hin hsh hq hp vV Ji hs1 Yw hqe ihb Ow ap0
 have HST:Hid (res=if h.op < 2 || 8 < h.op then (oF d++iA h)++⟨#[10]⟩ else if EO e then ((((oF d++iA h)++⟨#[10]⟩)++nE b (d + 1))++oF d)++⟨#[125,10]⟩ else (((((((oF d++iA h)++⟨#[10]⟩)++nE b (d + 1))++oF d)++UG)++nE e (d + 1))++oF d)++⟨#[125,10]⟩):=Lib.hid (by
  rw [Et.out]; unfold Lx
  rw [if_neg (by simp; omega)])
 clear Et
 generalize iA h=hd at *
 generalize nE b (d + 1)=tb at *
 generalize nE e (d + 1)=te at *
 generalize oF d=ind at *
 obtain ⟨op,line,nm,arg,idx,bV,xn,bU,aO⟩:=h
 dsimp only at HST hop
 have hmax:=ak7 d
 unfold bP
 dsimp only
 go_enter Tryz.func61,Tryz.ntmps61
 go_upto_region 1 with fail
 have HZ:=Lib.hid ((Sit.start w).lZ (n:=w.heap.size) rfl (.int .i64 op) (.int .i64 line) (.string nm) (.string arg) (.slice s.fH idx.len s.dW) (.int .i64 bV) (.int .i64 xn) (.string bU) (.slice s.cB aO.len s.bF) (.slice s.bC b.len s.aV) (.slice s.eZ e.len s.dL) 89)
 generalize hW:World.alloc w _=W
 rw [hW] at HZ
 clear hW
 obtain ⟨-,⟨-,c0⟩,⟨-,c1⟩,⟨-,c2⟩,⟨-,c3⟩,⟨-,c4⟩,⟨-,c5⟩,⟨-,c6⟩,⟨-,c7⟩,⟨-,c8⟩,⟨-,c9⟩,⟨-,c10⟩,-⟩:=HZ.out
 have hop1: ¬ op < 1:=by omega
 have hop2: ¬ 15 < op:=by omega
 go_wp2_with fail
 refine (ao7.out _).mono ?_
 rintro e' w2 ⟨rfl,rfl⟩
 go_wp2_with fail
 rw [Sm]
 refine (lU.out _ HZ.out.1).mono ?_
 rintro e' w3 ⟨rfl,hb⟩
 have HY:=Lib.hid (HZ.out.next hb)
 clear hb c0 c1 c2 c3 c4 c5 c6 c7 c8 c9 c10 HZ
 obtain ⟨-,⟨-,c0⟩,⟨-,c1⟩,⟨-,c2⟩,⟨-,c3⟩,⟨-,c4⟩,⟨-,c5⟩,⟨-,c6⟩,⟨-,c7⟩,⟨-,c8⟩,⟨-,c9⟩,⟨-,c10⟩,-⟩:=HY.out
 by_cases hb:op < 2∨8 < op
 ·have HR:=Lib.hid (HST.out.trans (if_pos (by simpa using hb)))
  rcases hb with hb | hb
  ·go_wp2_with fail
   go_ret
   exact ⟨by rw [HR.out]; rfl,HY.out.1⟩
  ·have hb': ¬ op < 2:=by omega
   go_wp2_with fail
   go_ret
   exact ⟨by rw [HR.out]; rfl,HY.out.1⟩
 ·have HR:=Lib.hid (HST.out.trans (if_neg (by simpa using hb)))
  have hb1: ¬ op < 2:=by omega
  have hb2: ¬ 8 < op:=by omega
  clear hb HST
  go_wp2_with fail
  refine (qB.out _ HY.out.1).mono ?_
  rintro e' w4 ⟨rfl,hb⟩
  have HV:=Lib.hid (HY.out.next hb)
  clear hb c0 c1 c2 c3 c4 c5 c6 c7 c8 c9 c10 HY
  obtain ⟨-,⟨-,c0⟩,⟨-,c1⟩,⟨-,c2⟩,⟨-,c3⟩,⟨-,c4⟩,⟨-,c5⟩,⟨-,c6⟩,⟨-,c7⟩,⟨-,c8⟩,⟨-,c9⟩,⟨-,c10⟩,-⟩:=HV.out
  cases e with
  | nil=>
    have HR2:=Lib.hid (HR.out.trans (if_pos rfl))
    simp only [aS.len] at c10
    go_wp2_with fail
    go_ret
    exact ⟨by rw [HR2.out]; rfl,HV.out.1⟩
  | cons he be ee re=>
    have HR2:=Lib.hid (HR.out.trans (if_neg (show ¬ false=true by decide)))
    have hlr:(0:Int) < ((aS.len (.cons he be ee re):Nat):Int):=by simp only [aS.len]; omega
    generalize aS.cons he be ee re=e at *
    unfold UG at HR2
    go_wp2_with fail
    refine (HCE.out _ HV.out.1).mono ?_
    rintro e' w5 ⟨rfl,hb⟩
    have HU:=Lib.hid ((HV.out.next hb).1)
    clear hb c0 c1 c2 c3 c4 c5 c6 c7 c8 c9 c10
    go_wp2_with fail
    go_ret
    exact ⟨by rw [HR2.out]; rfl,HU.out⟩
theorem MN (l:aS):Qg l:=BD l (aS.pQ Mt l)
end Go.Proofs.YtehnipchbmjlhaaGreatDoor
end
