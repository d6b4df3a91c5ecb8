/-
  Contracts of the printer's indent and head (printed by gen_fmh.py).
  How long the printer's texts are. No program in sight.
  Contracts of the printer's Stmt and stmts.
-/
import Derived.Test.YtehnipchbmjlhaaGreatDoorGFA
section
set_option linter.unusedSimpArgs false
set_option linter.unusedVariables false
namespace Go.Proofs.YtehnipchbmjlhaaGreatDoor
open Go.RowKit
open Md Fm
theorem uy: ∀n,(mE n).size=2 * n
 | 0=>rfl
 | n + 1=>by unfold mE; rw [ByteArray.size_append,uy n,show (⟨#[32,32]⟩:ByteArray).size=2 from rfl]; omega
theorem MP (n:Nat) (hn:n≤1000000000000000000) (w:World):
 Calls Tryz.prog 98 #[.int .i64 (n:Int)] w fun e w'=>e= .returned (.string (mE n))∧w=w':=by
 go_enter Tryz.func98,Tryz.ntmps98
 go_wp2_with fail
 go_loop [3,4] (fun s i=> ∃k:Nat,k≤n∧i= .int .i64 k∧s= .string (mE k)) (fun _ i=>n - (intOf i).toNat)
 case atStart=>exact ⟨0,Nat.zero_le _,rfl,rfl⟩
 case round=>
  obtain ⟨k,hk,rfl,rfl⟩:=hrel
  by_cases hlt:k < n
  ·have hs:=uy k
   have hs':(mE k).size≤2000000000000000000:=by omega
   have HS:Hid (mE (k + 1)=mE k++⟨#[32,32]⟩):=Lib.hid rfl
   clear hs
   generalize mE k=t at *
   go_wp2_with fail
   go_round
   case rel=>exact ⟨k + 1,by omega,by go_num,by rw [HS.out]⟩
   case measure=>simp [intOf]; omega
  ·have e:k=n:=by omega
   subst e
   go_wp2_with fail
   go_ret
   exact ⟨rfl,rfl⟩
theorem shX {h:aW} {bl el:Nat} (hs:iy h bl el=true) (hx:fX h.op=true):dI h.bM h.xn h.bP h.aJ=true:=by
 unfold iy at hs
 rw [hx] at hs
 simp only [Bool.and_eq_true,if_true] at hs
 exact hs.2.1
theorem shI {h:aW} {bl el:Nat} (hs:iy h bl el=true):h.idx.len≤1∧gZ h.idx=true:=by
 unfold iy at hs
 simp only [Bool.and_eq_true,decide_eq_true_eq] at hs
 exact ⟨hs.1.2.1.1,hs.1.2.2⟩
theorem shO {h:aW} {bl el:Nat} (hs:iy h bl el=true):1≤h.op∧h.op≤15:=by
 unfold iy fO at hs
 simp only [Bool.and_eq_true,decide_eq_true_eq] at hs
 exact hs.1.1.1
theorem jA (op:Int):(iE op).size≤11:=by
 unfold iE
 simp only [apply_ite ByteArray.size]
 repeat (refine J2 (by decide) ?_)
 decide
set_option maxHeartbeats 8000000 in
set_option maxRecDepth 100000 in
theorem Sz (h:aW) (b e:aI) (s:Sl) (w:World) (hin:Ba w h b e s) (hsh:iy h b.len e.len=true) (hwt:vG h≤1152921504606846976) (hp:iM w):
 Calls Tryz.prog 99 #[eB h b e s] w fun e' w'=>e'= .returned (.string (eD h))∧Below w.heap.size w w':=by
 obtain ⟨op,line,nm,arg,idx,bM,xn,bP,aJ⟩:=h
 have hop:=shO hsh
 dsimp only at hop
 unfold vG lD at hwt
 dsimp only at hwt
 have hnm:nm.size≤1152921504606846976:=by omega
 have har:arg.size≤1152921504606846976:=by omega
 have HX:Hid (fX op=true→ ∀w',Below w.heap.size w w'→Calls Tryz.prog 19 #[.agg #[.int .i64 bM,.int .i64 xn,.string bP,.slice s.dJ aJ.len s.bS]] w' fun e' w2=>e'= .returned (.string (bf bM xn bP aJ))∧Below w'.heap.size w' w2):=Lib.hid (fun hx w' hb=>
  wM bM xn bP aJ w' s.dJ s.bS hin.1.2.2.2.2.2.1 (shX hsh hx) (by unfold lD; omega) (hin.2.2.1.same hb) (hp.next hb))
 have PG:Hid ((bf bM xn bP aJ).size≤1152921504606846976):=Lib.hid (by
  have:=jc (kids:=aJ) bM xn bP hin.1.2.2.2.2.2.1.2.1 hin.2.2.1
  unfold lD at this; omega)
 have HI:=Lib.hid (shI hsh)
 have jK:=Lib.hid hin
 have iD:=Lib.hid hp
 have HWI:Hid (pX idx≤1152921504606846976):=Lib.hid (by omega)
 have Dy:Hid (∀c,op=c→eD ⟨c,line,nm,arg,idx,bM,xn,bP,aJ⟩=eD ⟨op,line,nm,arg,idx,bM,xn,bP,aJ⟩):=Lib.hid (fun c e=>by rw [e])
 clear hin hsh hwt hp
 have hc:op=1∨op=2∨op=3∨op=4∨op=5∨op=6∨op=7∨op=8∨op=9∨op=10∨op=11∨op=12∨op=13∨op=14∨op=15:=by omega
 clear hop Dy
 rcases hc with rfl | rfl | rfl | rfl | rfl | rfl | rfl | rfl | rfl | rfl | rfl | rfl | rfl | rfl | rfl
 ·cases idx with
  | nil=>
    have iB:=Lib.hid (HX.out rfl)
    have HE:Hid (eD ⟨1,line,nm,arg,aH.nil,bM,xn,bP,aJ⟩=(((nm++⟨#[]⟩)++⟨#[32,61,32]⟩)++bf bM xn bP aJ)++⟨#[59]⟩):=Lib.hid rfl
    rw [HE.out]
    clear HE HX
    have hxz:=PG.out
    generalize bf bM xn bP aJ=xt at *
    unfold eB
    dsimp only
    go_enter Tryz.func99,Tryz.ntmps99
    go_upto_region 1 with fail
    have HZ:=Lib.hid ((Sit.start w).kT (n:=w.heap.size) rfl (.int .i64 1) (.int .i64 line) (.string nm) (.string arg) (.slice s.eP (aH.nil).len s.dK) (.int .i64 bM) (.int .i64 xn) (.string bP) (.slice s.dJ aJ.len s.bS) (.slice s.bR b.len s.aZ) (.slice s.dY e.len s.dA) 89)
    generalize hW:World.alloc w _=W
    rw [hW] at HZ
    clear hW
    go_upto_region 2 with fail
    have HY:=Lib.hid (HZ.out.next (ah W (.cells #[.string ⟨#[]⟩,.string ⟨#[]⟩,.string ⟨#[105,102]⟩,.string ⟨#[119,104,105,108,101]⟩,.string ⟨#[108,111,99,107]⟩,.string ⟨#[114,101,97,100]⟩,.string ⟨#[119,114,105,116,101]⟩,.string ⟨#[116,114,97,110,115,97,99,116,105,111,110]⟩,.string ⟨#[97,116,111,109,105,99]⟩,.string ⟨#[119,97,105,116]⟩,.string ⟨#[110,111,116,105,102,121]⟩,.string ⟨#[110,111,116,105,102,121,97,108,108]⟩,.string ⟨#[115,112,97,119,110]⟩,.string ⟨#[106,111,105,110]⟩,.string ⟨#[115,101,116]⟩,.string ⟨#[103,101,116]⟩] 9)))
    have dF:=Lib.hid (heap_alloc_new W (.cells #[.string ⟨#[]⟩,.string ⟨#[]⟩,.string ⟨#[105,102]⟩,.string ⟨#[119,104,105,108,101]⟩,.string ⟨#[108,111,99,107]⟩,.string ⟨#[114,101,97,100]⟩,.string ⟨#[119,114,105,116,101]⟩,.string ⟨#[116,114,97,110,115,97,99,116,105,111,110]⟩,.string ⟨#[97,116,111,109,105,99]⟩,.string ⟨#[119,97,105,116]⟩,.string ⟨#[110,111,116,105,102,121]⟩,.string ⟨#[110,111,116,105,102,121,97,108,108]⟩,.string ⟨#[115,112,97,119,110]⟩,.string ⟨#[106,111,105,110]⟩,.string ⟨#[115,101,116]⟩,.string ⟨#[103,101,116]⟩] 9))
    generalize hW:World.alloc W _=W1
    rw [hW] at HY dF
    clear hW HZ
    have cw:W1.cell? ⟨W.heap.size,1,none⟩=some (.string ⟨#[]⟩):=ak dF.out rfl
    obtain ⟨wb,hwb⟩: ∃g,W.heap.size=g:=⟨_,rfl⟩
    rw [hwb] at cw ⊢
    clear dF hwb
    obtain ⟨-,⟨-,c0⟩,⟨-,c1⟩,⟨-,c2⟩,⟨-,c3⟩,⟨-,c4⟩,⟨-,c5⟩,⟨-,c6⟩,⟨-,c7⟩,⟨-,c8⟩,⟨-,c9⟩,⟨-,c10⟩,-⟩:=HY.out
    simp only [aH.len] at c4
    go_upto_region 8 with fail
    obtain ⟨T,F,D6,hst,hF,hnext⟩:=calm W1
    have HF:=Lib.hid hF
    have fQ:=Lib.hid hnext
    clear hnext hF
    have d0:=fun x=>(HY.out.next (HF.out x)).2.1.2
    have d1:=fun x=>(HY.out.next (HF.out x)).2.2.1.2
    have d2:=fun x=>(HY.out.next (HF.out x)).2.2.2.1.2
    have d3:=fun x=>(HY.out.next (HF.out x)).2.2.2.2.1.2
    have d4:=fun x=>(HY.out.next (HF.out x)).2.2.2.2.2.1.2
    have d5:=fun x=>(HY.out.next (HF.out x)).2.2.2.2.2.2.1.2
    have d6:=fun x=>(HY.out.next (HF.out x)).2.2.2.2.2.2.2.1.2
    have d7:=fun x=>(HY.out.next (HF.out x)).2.2.2.2.2.2.2.2.1.2
    have d8:=fun x=>(HY.out.next (HF.out x)).2.2.2.2.2.2.2.2.2.1.2
    have d9:=fun x=>(HY.out.next (HF.out x)).2.2.2.2.2.2.2.2.2.2.1.2
    have lG:=fun x=>(HY.out.next (HF.out x)).2.2.2.2.2.2.2.2.2.2.2.1.2
    clear c0 c1 c2 c3 c4 c5 c6 c7 c8 c9 c10
    refine kH F (by kernel_rfl) (by kernel_rfl) hst ?_
    repeat (any_goals (first | go_big_quiet_step ((go_at_call 19; refine (iB.out _ (HY.out.1.trans ((HF.out _).mono HY.out.1.size))).mono ?_; rintro e' w' ⟨rfl,hb⟩; exact ⟨rfl,fQ.out _ _ hb⟩)) | (refine wpQuiet_step (fun K hK=> ?_); go_simp; first | (refine hK _ ?_; clear hK K) | (split <;> first | (refine hK _ ?_; clear hK K) | (apply Exists.intro; refine ⟨fun _=> ?_,hK _ ?_⟩; ((go_at_call 19; refine (iB.out _ (HY.out.1.trans ((HF.out _).mono HY.out.1.size))).mono ?_; rintro e' w' ⟨rfl,hb⟩; exact ⟨rfl,fQ.out _ _ hb⟩)); clear hK K)))))
    all_goals (refine wpQuiet_nil ?_; rintro _ ⟨x,rfl⟩)
    have HB:=Lib.hid (HY.out.1.trans ((HF.out x).mono HY.out.1.size))
    clear d0 d1 d2 d3 d4 d5 d6 d7 d8 d9 lG HF fQ hst
    generalize F x=W3 at *
    go_wp2_with fail
    go_ret
    exact ⟨rfl,HB.out⟩
  | cons o m s0 k r=>
    obtain ⟨⟨b0,iF,pz,cap0,hao,hb0,x0,x1,x2,x3,hok0,oU⟩,-⟩:=jK.out.2.1
    have hsk:dI o m s0 k=true:=by have:=HI.out.2; unfold gZ at this; rw [Bool.and_eq_true,Bool.and_eq_true] at this; unfold dI; rw [Bool.and_eq_true]; exact this.1
    have hwk:lD s0 k≤1152921504606846976:=by have:=HWI.out; unfold pX at this; unfold lD; omega
    have TG:=Lib.hid (fun w' hb=>wM o m s0 k w' pz cap0 hok0 hsk hwk (oU.same hb) (iD.out.next hb))
    have hiz:(bf o m s0 k).size≤1152921504606846976:=Nat.le_trans (jc o m s0 hok0.2.1 oU) hwk
    have pJ:=Lib.hid (And.intro hb0 (And.intro x0 (And.intro x1 (And.intro x2 x3))))
    have TR:=Lib.hid hao
    clear x0 x1 x2 x3 hok0 oU hsk hwk hb0 jK HI HWI hao
    have iB:=Lib.hid (HX.out rfl)
    have HE:Hid (eD ⟨1,line,nm,arg,(aH.cons o m s0 k r),bM,xn,bP,aJ⟩=(((nm++((⟨#[91]⟩++bf o m s0 k)++⟨#[93]⟩))++⟨#[32,61,32]⟩)++bf bM xn bP aJ)++⟨#[59]⟩):=Lib.hid rfl
    rw [HE.out]
    clear HE HX
    have hxz:=PG.out
    generalize bf bM xn bP aJ=xt at *
    generalize bf o m s0 k=ik at *
    unfold eB
    dsimp only
    go_enter Tryz.func99,Tryz.ntmps99
    go_upto_region 1 with fail
    have HZ:=Lib.hid ((Sit.start w).kT (n:=w.heap.size) rfl (.int .i64 1) (.int .i64 line) (.string nm) (.string arg) (.slice s.eP ((aH.cons o m s0 k r)).len s.dK) (.int .i64 bM) (.int .i64 xn) (.string bP) (.slice s.dJ aJ.len s.bS) (.slice s.bR b.len s.aZ) (.slice s.dY e.len s.dA) 89)
    generalize hW:World.alloc w _=W
    rw [hW] at HZ
    clear hW
    go_upto_region 2 with fail
    have HY:=Lib.hid (HZ.out.next (ah W (.cells #[.string ⟨#[]⟩,.string ⟨#[]⟩,.string ⟨#[105,102]⟩,.string ⟨#[119,104,105,108,101]⟩,.string ⟨#[108,111,99,107]⟩,.string ⟨#[114,101,97,100]⟩,.string ⟨#[119,114,105,116,101]⟩,.string ⟨#[116,114,97,110,115,97,99,116,105,111,110]⟩,.string ⟨#[97,116,111,109,105,99]⟩,.string ⟨#[119,97,105,116]⟩,.string ⟨#[110,111,116,105,102,121]⟩,.string ⟨#[110,111,116,105,102,121,97,108,108]⟩,.string ⟨#[115,112,97,119,110]⟩,.string ⟨#[106,111,105,110]⟩,.string ⟨#[115,101,116]⟩,.string ⟨#[103,101,116]⟩] 9)))
    have dF:=Lib.hid (heap_alloc_new W (.cells #[.string ⟨#[]⟩,.string ⟨#[]⟩,.string ⟨#[105,102]⟩,.string ⟨#[119,104,105,108,101]⟩,.string ⟨#[108,111,99,107]⟩,.string ⟨#[114,101,97,100]⟩,.string ⟨#[119,114,105,116,101]⟩,.string ⟨#[116,114,97,110,115,97,99,116,105,111,110]⟩,.string ⟨#[97,116,111,109,105,99]⟩,.string ⟨#[119,97,105,116]⟩,.string ⟨#[110,111,116,105,102,121]⟩,.string ⟨#[110,111,116,105,102,121,97,108,108]⟩,.string ⟨#[115,112,97,119,110]⟩,.string ⟨#[106,111,105,110]⟩,.string ⟨#[115,101,116]⟩,.string ⟨#[103,101,116]⟩] 9))
    generalize hW:World.alloc W _=W1
    rw [hW] at HY dF
    clear hW HZ
    have cw:W1.cell? ⟨W.heap.size,1,none⟩=some (.string ⟨#[]⟩):=ak dF.out rfl
    obtain ⟨wb,hwb⟩: ∃g,W.heap.size=g:=⟨_,rfl⟩
    rw [hwb] at cw ⊢
    clear dF hwb
    obtain ⟨-,⟨-,c0⟩,⟨-,c1⟩,⟨-,c2⟩,⟨-,c3⟩,⟨-,c4⟩,⟨-,c5⟩,⟨-,c6⟩,⟨-,c7⟩,⟨-,c8⟩,⟨-,c9⟩,⟨-,c10⟩,-⟩:=HY.out
    have y0:=(HY.out.1.cell (p:=⟨b0,iF + 0 * 4,none⟩) pJ.out.1).trans pJ.out.2.1
    have y1:=(HY.out.1.cell (p:=⟨b0,iF + 0 * 4 + 1,none⟩) pJ.out.1).trans pJ.out.2.2.1
    have y2:=(HY.out.1.cell (p:=⟨b0,iF + 0 * 4 + 2,none⟩) pJ.out.1).trans pJ.out.2.2.2.1
    have y3:=(HY.out.1.cell (p:=⟨b0,iF + 0 * 4 + 3,none⟩) pJ.out.1).trans pJ.out.2.2.2.2
    simp only [Nat.zero_mul,Nat.add_zero] at y0 y1 y2 y3
    rw [TR.out] at c4
    simp only [aH.len] at c4
    have hlr:(0:Int) < ((r.len + 1:Nat):Int):=by omega
    go_wp2_with fail
    refine (TG.out _ HY.out.1).mono ?_
    rintro e' w3 ⟨rfl,hb⟩
    have HV:=Lib.hid (HY.out.next hb)
    clear hb c0 c1 c2 c3 c4 c5 c6 c7 c8 c9 c10 y0 y1 y2 y3 TG
    obtain ⟨-,⟨-,c0⟩,⟨-,c1⟩,⟨-,c2⟩,⟨-,c3⟩,⟨-,c4⟩,⟨-,c5⟩,⟨-,c6⟩,⟨-,c7⟩,⟨-,c8⟩,⟨-,c9⟩,⟨-,c10⟩,-⟩:=HV.out
    go_upto_region 8 with fail
    obtain ⟨T,F,D6,hst,hF,hnext⟩:=calm w3
    have HF:=Lib.hid hF
    have fQ:=Lib.hid hnext
    clear hnext hF
    have d0:=fun x=>(HV.out.next (HF.out x)).2.1.2
    have d1:=fun x=>(HV.out.next (HF.out x)).2.2.1.2
    have d2:=fun x=>(HV.out.next (HF.out x)).2.2.2.1.2
    have d3:=fun x=>(HV.out.next (HF.out x)).2.2.2.2.1.2
    have d4:=fun x=>(HV.out.next (HF.out x)).2.2.2.2.2.1.2
    have d5:=fun x=>(HV.out.next (HF.out x)).2.2.2.2.2.2.1.2
    have d6:=fun x=>(HV.out.next (HF.out x)).2.2.2.2.2.2.2.1.2
    have d7:=fun x=>(HV.out.next (HF.out x)).2.2.2.2.2.2.2.2.1.2
    have d8:=fun x=>(HV.out.next (HF.out x)).2.2.2.2.2.2.2.2.2.1.2
    have d9:=fun x=>(HV.out.next (HF.out x)).2.2.2.2.2.2.2.2.2.2.1.2
    have lG:=fun x=>(HV.out.next (HF.out x)).2.2.2.2.2.2.2.2.2.2.2.1.2
    clear c0 c1 c2 c3 c4 c5 c6 c7 c8 c9 c10
    refine kH F (by kernel_rfl) (by kernel_rfl) hst ?_
    repeat (any_goals (first | go_big_quiet_step ((go_at_call 19; refine (iB.out _ (HV.out.1.trans ((HF.out _).mono HV.out.1.size))).mono ?_; rintro e' w' ⟨rfl,hb⟩; exact ⟨rfl,fQ.out _ _ hb⟩)) | (refine wpQuiet_step (fun K hK=> ?_); go_simp; first | (refine hK _ ?_; clear hK K) | (split <;> first | (refine hK _ ?_; clear hK K) | (apply Exists.intro; refine ⟨fun _=> ?_,hK _ ?_⟩; ((go_at_call 19; refine (iB.out _ (HV.out.1.trans ((HF.out _).mono HV.out.1.size))).mono ?_; rintro e' w' ⟨rfl,hb⟩; exact ⟨rfl,fQ.out _ _ hb⟩)); clear hK K)))))
    all_goals (refine wpQuiet_nil ?_; rintro _ ⟨x,rfl⟩)
    have HB:=Lib.hid (HV.out.1.trans ((HF.out x).mono HV.out.1.size))
    clear d0 d1 d2 d3 d4 d5 d6 d7 d8 d9 lG HF fQ hst
    generalize F x=W3 at *
    go_wp2_with fail
    go_ret
    exact ⟨rfl,HB.out⟩
 ·have iB:=Lib.hid (HX.out rfl)
  have HE:Hid (eD ⟨2,line,nm,arg,idx,bM,xn,bP,aJ⟩=((iE 2++⟨#[32]⟩)++bf bM xn bP aJ)++⟨#[32,123]⟩):=Lib.hid rfl
  rw [HE.out]
  clear HE HX
  have hxz:=PG.out
  obtain ⟨wd,dD⟩: ∃wd,Hid (iE 2=wd):=⟨_,Lib.hid rfl⟩
  have hwd:wd.size≤11:=by rw [← dD.out]; exact jA 2
  rw [dD.out]
  generalize bf bM xn bP aJ=xt at *
  unfold eB
  dsimp only
  go_enter Tryz.func99,Tryz.ntmps99
  go_upto_region 1 with fail
  have HZ:=Lib.hid ((Sit.start w).kT (n:=w.heap.size) rfl (.int .i64 2) (.int .i64 line) (.string nm) (.string arg) (.slice s.eP (idx).len s.dK) (.int .i64 bM) (.int .i64 xn) (.string bP) (.slice s.dJ aJ.len s.bS) (.slice s.bR b.len s.aZ) (.slice s.dY e.len s.dA) 89)
  generalize hW:World.alloc w _=W
  rw [hW] at HZ
  clear hW
  go_upto_region 2 with fail
  have HY:=Lib.hid (HZ.out.next (ah W (.cells #[.string ⟨#[]⟩,.string ⟨#[]⟩,.string ⟨#[105,102]⟩,.string ⟨#[119,104,105,108,101]⟩,.string ⟨#[108,111,99,107]⟩,.string ⟨#[114,101,97,100]⟩,.string ⟨#[119,114,105,116,101]⟩,.string ⟨#[116,114,97,110,115,97,99,116,105,111,110]⟩,.string ⟨#[97,116,111,109,105,99]⟩,.string ⟨#[119,97,105,116]⟩,.string ⟨#[110,111,116,105,102,121]⟩,.string ⟨#[110,111,116,105,102,121,97,108,108]⟩,.string ⟨#[115,112,97,119,110]⟩,.string ⟨#[106,111,105,110]⟩,.string ⟨#[115,101,116]⟩,.string ⟨#[103,101,116]⟩] 9)))
  have dF:=Lib.hid (heap_alloc_new W (.cells #[.string ⟨#[]⟩,.string ⟨#[]⟩,.string ⟨#[105,102]⟩,.string ⟨#[119,104,105,108,101]⟩,.string ⟨#[108,111,99,107]⟩,.string ⟨#[114,101,97,100]⟩,.string ⟨#[119,114,105,116,101]⟩,.string ⟨#[116,114,97,110,115,97,99,116,105,111,110]⟩,.string ⟨#[97,116,111,109,105,99]⟩,.string ⟨#[119,97,105,116]⟩,.string ⟨#[110,111,116,105,102,121]⟩,.string ⟨#[110,111,116,105,102,121,97,108,108]⟩,.string ⟨#[115,112,97,119,110]⟩,.string ⟨#[106,111,105,110]⟩,.string ⟨#[115,101,116]⟩,.string ⟨#[103,101,116]⟩] 9))
  generalize hW:World.alloc W _=W1
  rw [hW] at HY dF
  clear hW HZ
  have cw:W1.cell? ⟨W.heap.size,2,none⟩=some (.string wd):=by rw [← dD.out]; exact ak dF.out rfl
  obtain ⟨wb,hwb⟩: ∃g,W.heap.size=g:=⟨_,rfl⟩
  rw [hwb] at cw ⊢
  clear dF hwb
  obtain ⟨-,⟨-,c0⟩,⟨-,c1⟩,⟨-,c2⟩,⟨-,c3⟩,⟨-,c4⟩,⟨-,c5⟩,⟨-,c6⟩,⟨-,c7⟩,⟨-,c8⟩,⟨-,c9⟩,⟨-,c10⟩,-⟩:=HY.out
  go_wp2_with fail
  refine (iB.out _ HY.out.1).mono ?_
  rintro e' w3 ⟨rfl,hb⟩
  have HB:=Lib.hid ((HY.out.next hb).1)
  clear hb
  go_wp2_with fail
  go_ret
  exact ⟨rfl,HB.out⟩
 ·have iB:=Lib.hid (HX.out rfl)
  have HE:Hid (eD ⟨3,line,nm,arg,idx,bM,xn,bP,aJ⟩=((iE 3++⟨#[32]⟩)++bf bM xn bP aJ)++⟨#[32,123]⟩):=Lib.hid rfl
  rw [HE.out]
  clear HE HX
  have hxz:=PG.out
  obtain ⟨wd,dD⟩: ∃wd,Hid (iE 3=wd):=⟨_,Lib.hid rfl⟩
  have hwd:wd.size≤11:=by rw [← dD.out]; exact jA 3
  rw [dD.out]
  generalize bf bM xn bP aJ=xt at *
  unfold eB
  dsimp only
  go_enter Tryz.func99,Tryz.ntmps99
  go_upto_region 1 with fail
  have HZ:=Lib.hid ((Sit.start w).kT (n:=w.heap.size) rfl (.int .i64 3) (.int .i64 line) (.string nm) (.string arg) (.slice s.eP (idx).len s.dK) (.int .i64 bM) (.int .i64 xn) (.string bP) (.slice s.dJ aJ.len s.bS) (.slice s.bR b.len s.aZ) (.slice s.dY e.len s.dA) 89)
  generalize hW:World.alloc w _=W
  rw [hW] at HZ
  clear hW
  go_upto_region 2 with fail
  have HY:=Lib.hid (HZ.out.next (ah W (.cells #[.string ⟨#[]⟩,.string ⟨#[]⟩,.string ⟨#[105,102]⟩,.string ⟨#[119,104,105,108,101]⟩,.string ⟨#[108,111,99,107]⟩,.string ⟨#[114,101,97,100]⟩,.string ⟨#[119,114,105,116,101]⟩,.string ⟨#[116,114,97,110,115,97,99,116,105,111,110]⟩,.string ⟨#[97,116,111,109,105,99]⟩,.string ⟨#[119,97,105,116]⟩,.string ⟨#[110,111,116,105,102,121]⟩,.string ⟨#[110,111,116,105,102,121,97,108,108]⟩,.string ⟨#[115,112,97,119,110]⟩,.string ⟨#[106,111,105,110]⟩,.string ⟨#[115,101,116]⟩,.string ⟨#[103,101,116]⟩] 9)))
  have dF:=Lib.hid (heap_alloc_new W (.cells #[.string ⟨#[]⟩,.string ⟨#[]⟩,.string ⟨#[105,102]⟩,.string ⟨#[119,104,105,108,101]⟩,.string ⟨#[108,111,99,107]⟩,.string ⟨#[114,101,97,100]⟩,.string ⟨#[119,114,105,116,101]⟩,.string ⟨#[116,114,97,110,115,97,99,116,105,111,110]⟩,.string ⟨#[97,116,111,109,105,99]⟩,.string ⟨#[119,97,105,116]⟩,.string ⟨#[110,111,116,105,102,121]⟩,.string ⟨#[110,111,116,105,102,121,97,108,108]⟩,.string ⟨#[115,112,97,119,110]⟩,.string ⟨#[106,111,105,110]⟩,.string ⟨#[115,101,116]⟩,.string ⟨#[103,101,116]⟩] 9))
  generalize hW:World.alloc W _=W1
  rw [hW] at HY dF
  clear hW HZ
  have cw:W1.cell? ⟨W.heap.size,3,none⟩=some (.string wd):=by rw [← dD.out]; exact ak dF.out rfl
  obtain ⟨wb,hwb⟩: ∃g,W.heap.size=g:=⟨_,rfl⟩
  rw [hwb] at cw ⊢
  clear dF hwb
  obtain ⟨-,⟨-,c0⟩,⟨-,c1⟩,⟨-,c2⟩,⟨-,c3⟩,⟨-,c4⟩,⟨-,c5⟩,⟨-,c6⟩,⟨-,c7⟩,⟨-,c8⟩,⟨-,c9⟩,⟨-,c10⟩,-⟩:=HY.out
  go_wp2_with fail
  refine (iB.out _ HY.out.1).mono ?_
  rintro e' w3 ⟨rfl,hb⟩
  have HB:=Lib.hid ((HY.out.next hb).1)
  clear hb
  go_wp2_with fail
  go_ret
  exact ⟨rfl,HB.out⟩
 ·have HE:Hid (eD ⟨4,line,nm,arg,idx,bM,xn,bP,aJ⟩=((iE 4++⟨#[32]⟩)++nm)++⟨#[32,123]⟩):=Lib.hid rfl
  rw [HE.out]
  clear HE HX
  obtain ⟨wd,dD⟩: ∃wd,Hid (iE 4=wd):=⟨_,Lib.hid rfl⟩
  have hwd:wd.size≤11:=by rw [← dD.out]; exact jA 4
  rw [dD.out]
  generalize bf bM xn bP aJ=xt at *
  unfold eB
  dsimp only
  go_enter Tryz.func99,Tryz.ntmps99
  go_upto_region 1 with fail
  have HZ:=Lib.hid ((Sit.start w).kT (n:=w.heap.size) rfl (.int .i64 4) (.int .i64 line) (.string nm) (.string arg) (.slice s.eP (idx).len s.dK) (.int .i64 bM) (.int .i64 xn) (.string bP) (.slice s.dJ aJ.len s.bS) (.slice s.bR b.len s.aZ) (.slice s.dY e.len s.dA) 89)
  generalize hW:World.alloc w _=W
  rw [hW] at HZ
  clear hW
  go_upto_region 2 with fail
  have HY:=Lib.hid (HZ.out.next (ah W (.cells #[.string ⟨#[]⟩,.string ⟨#[]⟩,.string ⟨#[105,102]⟩,.string ⟨#[119,104,105,108,101]⟩,.string ⟨#[108,111,99,107]⟩,.string ⟨#[114,101,97,100]⟩,.string ⟨#[119,114,105,116,101]⟩,.string ⟨#[116,114,97,110,115,97,99,116,105,111,110]⟩,.string ⟨#[97,116,111,109,105,99]⟩,.string ⟨#[119,97,105,116]⟩,.string ⟨#[110,111,116,105,102,121]⟩,.string ⟨#[110,111,116,105,102,121,97,108,108]⟩,.string ⟨#[115,112,97,119,110]⟩,.string ⟨#[106,111,105,110]⟩,.string ⟨#[115,101,116]⟩,.string ⟨#[103,101,116]⟩] 9)))
  have dF:=Lib.hid (heap_alloc_new W (.cells #[.string ⟨#[]⟩,.string ⟨#[]⟩,.string ⟨#[105,102]⟩,.string ⟨#[119,104,105,108,101]⟩,.string ⟨#[108,111,99,107]⟩,.string ⟨#[114,101,97,100]⟩,.string ⟨#[119,114,105,116,101]⟩,.string ⟨#[116,114,97,110,115,97,99,116,105,111,110]⟩,.string ⟨#[97,116,111,109,105,99]⟩,.string ⟨#[119,97,105,116]⟩,.string ⟨#[110,111,116,105,102,121]⟩,.string ⟨#[110,111,116,105,102,121,97,108,108]⟩,.string ⟨#[115,112,97,119,110]⟩,.string ⟨#[106,111,105,110]⟩,.string ⟨#[115,101,116]⟩,.string ⟨#[103,101,116]⟩] 9))
  generalize hW:World.alloc W _=W1
  rw [hW] at HY dF
  clear hW HZ
  have cw:W1.cell? ⟨W.heap.size,4,none⟩=some (.string wd):=by rw [← dD.out]; exact ak dF.out rfl
  obtain ⟨wb,hwb⟩: ∃g,W.heap.size=g:=⟨_,rfl⟩
  rw [hwb] at cw ⊢
  clear dF hwb
  obtain ⟨-,⟨-,c0⟩,⟨-,c1⟩,⟨-,c2⟩,⟨-,c3⟩,⟨-,c4⟩,⟨-,c5⟩,⟨-,c6⟩,⟨-,c7⟩,⟨-,c8⟩,⟨-,c9⟩,⟨-,c10⟩,-⟩:=HY.out
  go_wp2_with fail
  go_ret
  exact ⟨rfl,HY.out.1⟩
 ·have HE:Hid (eD ⟨5,line,nm,arg,idx,bM,xn,bP,aJ⟩=((iE 5++⟨#[32]⟩)++nm)++⟨#[32,123]⟩):=Lib.hid rfl
  rw [HE.out]
  clear HE HX
  obtain ⟨wd,dD⟩: ∃wd,Hid (iE 5=wd):=⟨_,Lib.hid rfl⟩
  have hwd:wd.size≤11:=by rw [← dD.out]; exact jA 5
  rw [dD.out]
  generalize bf bM xn bP aJ=xt at *
  unfold eB
  dsimp only
  go_enter Tryz.func99,Tryz.ntmps99
  go_upto_region 1 with fail
  have HZ:=Lib.hid ((Sit.start w).kT (n:=w.heap.size) rfl (.int .i64 5) (.int .i64 line) (.string nm) (.string arg) (.slice s.eP (idx).len s.dK) (.int .i64 bM) (.int .i64 xn) (.string bP) (.slice s.dJ aJ.len s.bS) (.slice s.bR b.len s.aZ) (.slice s.dY e.len s.dA) 89)
  generalize hW:World.alloc w _=W
  rw [hW] at HZ
  clear hW
  go_upto_region 2 with fail
  have HY:=Lib.hid (HZ.out.next (ah W (.cells #[.string ⟨#[]⟩,.string ⟨#[]⟩,.string ⟨#[105,102]⟩,.string ⟨#[119,104,105,108,101]⟩,.string ⟨#[108,111,99,107]⟩,.string ⟨#[114,101,97,100]⟩,.string ⟨#[119,114,105,116,101]⟩,.string ⟨#[116,114,97,110,115,97,99,116,105,111,110]⟩,.string ⟨#[97,116,111,109,105,99]⟩,.string ⟨#[119,97,105,116]⟩,.string ⟨#[110,111,116,105,102,121]⟩,.string ⟨#[110,111,116,105,102,121,97,108,108]⟩,.string ⟨#[115,112,97,119,110]⟩,.string ⟨#[106,111,105,110]⟩,.string ⟨#[115,101,116]⟩,.string ⟨#[103,101,116]⟩] 9)))
  have dF:=Lib.hid (heap_alloc_new W (.cells #[.string ⟨#[]⟩,.string ⟨#[]⟩,.string ⟨#[105,102]⟩,.string ⟨#[119,104,105,108,101]⟩,.string ⟨#[108,111,99,107]⟩,.string ⟨#[114,101,97,100]⟩,.string ⟨#[119,114,105,116,101]⟩,.string ⟨#[116,114,97,110,115,97,99,116,105,111,110]⟩,.string ⟨#[97,116,111,109,105,99]⟩,.string ⟨#[119,97,105,116]⟩,.string ⟨#[110,111,116,105,102,121]⟩,.string ⟨#[110,111,116,105,102,121,97,108,108]⟩,.string ⟨#[115,112,97,119,110]⟩,.string ⟨#[106,111,105,110]⟩,.string ⟨#[115,101,116]⟩,.string ⟨#[103,101,116]⟩] 9))
  generalize hW:World.alloc W _=W1
  rw [hW] at HY dF
  clear hW HZ
  have cw:W1.cell? ⟨W.heap.size,5,none⟩=some (.string wd):=by rw [← dD.out]; exact ak dF.out rfl
  obtain ⟨wb,hwb⟩: ∃g,W.heap.size=g:=⟨_,rfl⟩
  rw [hwb] at cw ⊢
  clear dF hwb
  obtain ⟨-,⟨-,c0⟩,⟨-,c1⟩,⟨-,c2⟩,⟨-,c3⟩,⟨-,c4⟩,⟨-,c5⟩,⟨-,c6⟩,⟨-,c7⟩,⟨-,c8⟩,⟨-,c9⟩,⟨-,c10⟩,-⟩:=HY.out
  go_wp2_with fail
  go_ret
  exact ⟨rfl,HY.out.1⟩
 ·have HE:Hid (eD ⟨6,line,nm,arg,idx,bM,xn,bP,aJ⟩=((iE 6++⟨#[32]⟩)++nm)++⟨#[32,123]⟩):=Lib.hid rfl
  rw [HE.out]
  clear HE HX
  obtain ⟨wd,dD⟩: ∃wd,Hid (iE 6=wd):=⟨_,Lib.hid rfl⟩
  have hwd:wd.size≤11:=by rw [← dD.out]; exact jA 6
  rw [dD.out]
  generalize bf bM xn bP aJ=xt at *
  unfold eB
  dsimp only
  go_enter Tryz.func99,Tryz.ntmps99
  go_upto_region 1 with fail
  have HZ:=Lib.hid ((Sit.start w).kT (n:=w.heap.size) rfl (.int .i64 6) (.int .i64 line) (.string nm) (.string arg) (.slice s.eP (idx).len s.dK) (.int .i64 bM) (.int .i64 xn) (.string bP) (.slice s.dJ aJ.len s.bS) (.slice s.bR b.len s.aZ) (.slice s.dY e.len s.dA) 89)
  generalize hW:World.alloc w _=W
  rw [hW] at HZ
  clear hW
  go_upto_region 2 with fail
  have HY:=Lib.hid (HZ.out.next (ah W (.cells #[.string ⟨#[]⟩,.string ⟨#[]⟩,.string ⟨#[105,102]⟩,.string ⟨#[119,104,105,108,101]⟩,.string ⟨#[108,111,99,107]⟩,.string ⟨#[114,101,97,100]⟩,.string ⟨#[119,114,105,116,101]⟩,.string ⟨#[116,114,97,110,115,97,99,116,105,111,110]⟩,.string ⟨#[97,116,111,109,105,99]⟩,.string ⟨#[119,97,105,116]⟩,.string ⟨#[110,111,116,105,102,121]⟩,.string ⟨#[110,111,116,105,102,121,97,108,108]⟩,.string ⟨#[115,112,97,119,110]⟩,.string ⟨#[106,111,105,110]⟩,.string ⟨#[115,101,116]⟩,.string ⟨#[103,101,116]⟩] 9)))
  have dF:=Lib.hid (heap_alloc_new W (.cells #[.string ⟨#[]⟩,.string ⟨#[]⟩,.string ⟨#[105,102]⟩,.string ⟨#[119,104,105,108,101]⟩,.string ⟨#[108,111,99,107]⟩,.string ⟨#[114,101,97,100]⟩,.string ⟨#[119,114,105,116,101]⟩,.string ⟨#[116,114,97,110,115,97,99,116,105,111,110]⟩,.string ⟨#[97,116,111,109,105,99]⟩,.string ⟨#[119,97,105,116]⟩,.string ⟨#[110,111,116,105,102,121]⟩,.string ⟨#[110,111,116,105,102,121,97,108,108]⟩,.string ⟨#[115,112,97,119,110]⟩,.string ⟨#[106,111,105,110]⟩,.string ⟨#[115,101,116]⟩,.string ⟨#[103,101,116]⟩] 9))
  generalize hW:World.alloc W _=W1
  rw [hW] at HY dF
  clear hW HZ
  have cw:W1.cell? ⟨W.heap.size,6,none⟩=some (.string wd):=by rw [← dD.out]; exact ak dF.out rfl
  obtain ⟨wb,hwb⟩: ∃g,W.heap.size=g:=⟨_,rfl⟩
  rw [hwb] at cw ⊢
  clear dF hwb
  obtain ⟨-,⟨-,c0⟩,⟨-,c1⟩,⟨-,c2⟩,⟨-,c3⟩,⟨-,c4⟩,⟨-,c5⟩,⟨-,c6⟩,⟨-,c7⟩,⟨-,c8⟩,⟨-,c9⟩,⟨-,c10⟩,-⟩:=HY.out
  go_wp2_with fail
  go_ret
  exact ⟨rfl,HY.out.1⟩
 ·have HE:Hid (eD ⟨7,line,nm,arg,idx,bM,xn,bP,aJ⟩=iE 7++⟨#[32,123]⟩):=Lib.hid rfl
  rw [HE.out]
  clear HE HX
  obtain ⟨wd,dD⟩: ∃wd,Hid (iE 7=wd):=⟨_,Lib.hid rfl⟩
  have hwd:wd.size≤11:=by rw [← dD.out]; exact jA 7
  rw [dD.out]
  generalize bf bM xn bP aJ=xt at *
  unfold eB
  dsimp only
  go_enter Tryz.func99,Tryz.ntmps99
  go_upto_region 1 with fail
  have HZ:=Lib.hid ((Sit.start w).kT (n:=w.heap.size) rfl (.int .i64 7) (.int .i64 line) (.string nm) (.string arg) (.slice s.eP (idx).len s.dK) (.int .i64 bM) (.int .i64 xn) (.string bP) (.slice s.dJ aJ.len s.bS) (.slice s.bR b.len s.aZ) (.slice s.dY e.len s.dA) 89)
  generalize hW:World.alloc w _=W
  rw [hW] at HZ
  clear hW
  go_upto_region 2 with fail
  have HY:=Lib.hid (HZ.out.next (ah W (.cells #[.string ⟨#[]⟩,.string ⟨#[]⟩,.string ⟨#[105,102]⟩,.string ⟨#[119,104,105,108,101]⟩,.string ⟨#[108,111,99,107]⟩,.string ⟨#[114,101,97,100]⟩,.string ⟨#[119,114,105,116,101]⟩,.string ⟨#[116,114,97,110,115,97,99,116,105,111,110]⟩,.string ⟨#[97,116,111,109,105,99]⟩,.string ⟨#[119,97,105,116]⟩,.string ⟨#[110,111,116,105,102,121]⟩,.string ⟨#[110,111,116,105,102,121,97,108,108]⟩,.string ⟨#[115,112,97,119,110]⟩,.string ⟨#[106,111,105,110]⟩,.string ⟨#[115,101,116]⟩,.string ⟨#[103,101,116]⟩] 9)))
  have dF:=Lib.hid (heap_alloc_new W (.cells #[.string ⟨#[]⟩,.string ⟨#[]⟩,.string ⟨#[105,102]⟩,.string ⟨#[119,104,105,108,101]⟩,.string ⟨#[108,111,99,107]⟩,.string ⟨#[114,101,97,100]⟩,.string ⟨#[119,114,105,116,101]⟩,.string ⟨#[116,114,97,110,115,97,99,116,105,111,110]⟩,.string ⟨#[97,116,111,109,105,99]⟩,.string ⟨#[119,97,105,116]⟩,.string ⟨#[110,111,116,105,102,121]⟩,.string ⟨#[110,111,116,105,102,121,97,108,108]⟩,.string ⟨#[115,112,97,119,110]⟩,.string ⟨#[106,111,105,110]⟩,.string ⟨#[115,101,116]⟩,.string ⟨#[103,101,116]⟩] 9))
  generalize hW:World.alloc W _=W1
  rw [hW] at HY dF
  clear hW HZ
  have cw:W1.cell? ⟨W.heap.size,7,none⟩=some (.string wd):=by rw [← dD.out]; exact ak dF.out rfl
  obtain ⟨wb,hwb⟩: ∃g,W.heap.size=g:=⟨_,rfl⟩
  rw [hwb] at cw ⊢
  clear dF hwb
  obtain ⟨-,⟨-,c0⟩,⟨-,c1⟩,⟨-,c2⟩,⟨-,c3⟩,⟨-,c4⟩,⟨-,c5⟩,⟨-,c6⟩,⟨-,c7⟩,⟨-,c8⟩,⟨-,c9⟩,⟨-,c10⟩,-⟩:=HY.out
  go_wp2_with fail
  go_ret
  exact ⟨rfl,HY.out.1⟩
 ·have HE:Hid (eD ⟨8,line,nm,arg,idx,bM,xn,bP,aJ⟩=iE 8++⟨#[32,123]⟩):=Lib.hid rfl
  rw [HE.out]
  clear HE HX
  obtain ⟨wd,dD⟩: ∃wd,Hid (iE 8=wd):=⟨_,Lib.hid rfl⟩
  have hwd:wd.size≤11:=by rw [← dD.out]; exact jA 8
  rw [dD.out]
  generalize bf bM xn bP aJ=xt at *
  unfold eB
  dsimp only
  go_enter Tryz.func99,Tryz.ntmps99
  go_upto_region 1 with fail
  have HZ:=Lib.hid ((Sit.start w).kT (n:=w.heap.size) rfl (.int .i64 8) (.int .i64 line) (.string nm) (.string arg) (.slice s.eP (idx).len s.dK) (.int .i64 bM) (.int .i64 xn) (.string bP) (.slice s.dJ aJ.len s.bS) (.slice s.bR b.len s.aZ) (.slice s.dY e.len s.dA) 89)
  generalize hW:World.alloc w _=W
  rw [hW] at HZ
  clear hW
  go_upto_region 2 with fail
  have HY:=Lib.hid (HZ.out.next (ah W (.cells #[.string ⟨#[]⟩,.string ⟨#[]⟩,.string ⟨#[105,102]⟩,.string ⟨#[119,104,105,108,101]⟩,.string ⟨#[108,111,99,107]⟩,.string ⟨#[114,101,97,100]⟩,.string ⟨#[119,114,105,116,101]⟩,.string ⟨#[116,114,97,110,115,97,99,116,105,111,110]⟩,.string ⟨#[97,116,111,109,105,99]⟩,.string ⟨#[119,97,105,116]⟩,.string ⟨#[110,111,116,105,102,121]⟩,.string ⟨#[110,111,116,105,102,121,97,108,108]⟩,.string ⟨#[115,112,97,119,110]⟩,.string ⟨#[106,111,105,110]⟩,.string ⟨#[115,101,116]⟩,.string ⟨#[103,101,116]⟩] 9)))
  have dF:=Lib.hid (heap_alloc_new W (.cells #[.string ⟨#[]⟩,.string ⟨#[]⟩,.string ⟨#[105,102]⟩,.string ⟨#[119,104,105,108,101]⟩,.string ⟨#[108,111,99,107]⟩,.string ⟨#[114,101,97,100]⟩,.string ⟨#[119,114,105,116,101]⟩,.string ⟨#[116,114,97,110,115,97,99,116,105,111,110]⟩,.string ⟨#[97,116,111,109,105,99]⟩,.string ⟨#[119,97,105,116]⟩,.string ⟨#[110,111,116,105,102,121]⟩,.string ⟨#[110,111,116,105,102,121,97,108,108]⟩,.string ⟨#[115,112,97,119,110]⟩,.string ⟨#[106,111,105,110]⟩,.string ⟨#[115,101,116]⟩,.string ⟨#[103,101,116]⟩] 9))
  generalize hW:World.alloc W _=W1
  rw [hW] at HY dF
  clear hW HZ
  have cw:W1.cell? ⟨W.heap.size,8,none⟩=some (.string wd):=by rw [← dD.out]; exact ak dF.out rfl
  obtain ⟨wb,hwb⟩: ∃g,W.heap.size=g:=⟨_,rfl⟩
  rw [hwb] at cw ⊢
  clear dF hwb
  obtain ⟨-,⟨-,c0⟩,⟨-,c1⟩,⟨-,c2⟩,⟨-,c3⟩,⟨-,c4⟩,⟨-,c5⟩,⟨-,c6⟩,⟨-,c7⟩,⟨-,c8⟩,⟨-,c9⟩,⟨-,c10⟩,-⟩:=HY.out
  go_wp2_with fail
  go_ret
  exact ⟨rfl,HY.out.1⟩
 ·have HE:Hid (eD ⟨9,line,nm,arg,idx,bM,xn,bP,aJ⟩=((iE 9++⟨#[32]⟩)++nm)++⟨#[59]⟩):=Lib.hid rfl
  rw [HE.out]
  clear HE HX
  obtain ⟨wd,dD⟩: ∃wd,Hid (iE 9=wd):=⟨_,Lib.hid rfl⟩
  have hwd:wd.size≤11:=by rw [← dD.out]; exact jA 9
  rw [dD.out]
  generalize bf bM xn bP aJ=xt at *
  unfold eB
  dsimp only
  go_enter Tryz.func99,Tryz.ntmps99
  go_upto_region 1 with fail
  have HZ:=Lib.hid ((Sit.start w).kT (n:=w.heap.size) rfl (.int .i64 9) (.int .i64 line) (.string nm) (.string arg) (.slice s.eP (idx).len s.dK) (.int .i64 bM) (.int .i64 xn) (.string bP) (.slice s.dJ aJ.len s.bS) (.slice s.bR b.len s.aZ) (.slice s.dY e.len s.dA) 89)
  generalize hW:World.alloc w _=W
  rw [hW] at HZ
  clear hW
  go_upto_region 2 with fail
  have HY:=Lib.hid (HZ.out.next (ah W (.cells #[.string ⟨#[]⟩,.string ⟨#[]⟩,.string ⟨#[105,102]⟩,.string ⟨#[119,104,105,108,101]⟩,.string ⟨#[108,111,99,107]⟩,.string ⟨#[114,101,97,100]⟩,.string ⟨#[119,114,105,116,101]⟩,.string ⟨#[116,114,97,110,115,97,99,116,105,111,110]⟩,.string ⟨#[97,116,111,109,105,99]⟩,.string ⟨#[119,97,105,116]⟩,.string ⟨#[110,111,116,105,102,121]⟩,.string ⟨#[110,111,116,105,102,121,97,108,108]⟩,.string ⟨#[115,112,97,119,110]⟩,.string ⟨#[106,111,105,110]⟩,.string ⟨#[115,101,116]⟩,.string ⟨#[103,101,116]⟩] 9)))
  have dF:=Lib.hid (heap_alloc_new W (.cells #[.string ⟨#[]⟩,.string ⟨#[]⟩,.string ⟨#[105,102]⟩,.string ⟨#[119,104,105,108,101]⟩,.string ⟨#[108,111,99,107]⟩,.string ⟨#[114,101,97,100]⟩,.string ⟨#[119,114,105,116,101]⟩,.string ⟨#[116,114,97,110,115,97,99,116,105,111,110]⟩,.string ⟨#[97,116,111,109,105,99]⟩,.string ⟨#[119,97,105,116]⟩,.string ⟨#[110,111,116,105,102,121]⟩,.string ⟨#[110,111,116,105,102,121,97,108,108]⟩,.string ⟨#[115,112,97,119,110]⟩,.string ⟨#[106,111,105,110]⟩,.string ⟨#[115,101,116]⟩,.string ⟨#[103,101,116]⟩] 9))
  generalize hW:World.alloc W _=W1
  rw [hW] at HY dF
  clear hW HZ
  have cw:W1.cell? ⟨W.heap.size,9,none⟩=some (.string wd):=by rw [← dD.out]; exact ak dF.out rfl
  obtain ⟨wb,hwb⟩: ∃g,W.heap.size=g:=⟨_,rfl⟩
  rw [hwb] at cw ⊢
  clear dF hwb
  obtain ⟨-,⟨-,c0⟩,⟨-,c1⟩,⟨-,c2⟩,⟨-,c3⟩,⟨-,c4⟩,⟨-,c5⟩,⟨-,c6⟩,⟨-,c7⟩,⟨-,c8⟩,⟨-,c9⟩,⟨-,c10⟩,-⟩:=HY.out
  go_wp2_with fail
  go_ret
  exact ⟨rfl,HY.out.1⟩
 ·have HE:Hid (eD ⟨10,line,nm,arg,idx,bM,xn,bP,aJ⟩=((iE 10++⟨#[32]⟩)++nm)++⟨#[59]⟩):=Lib.hid rfl
  rw [HE.out]
  clear HE HX
  obtain ⟨wd,dD⟩: ∃wd,Hid (iE 10=wd):=⟨_,Lib.hid rfl⟩
  have hwd:wd.size≤11:=by rw [← dD.out]; exact jA 10
  rw [dD.out]
  generalize bf bM xn bP aJ=xt at *
  unfold eB
  dsimp only
  go_enter Tryz.func99,Tryz.ntmps99
  go_upto_region 1 with fail
  have HZ:=Lib.hid ((Sit.start w).kT (n:=w.heap.size) rfl (.int .i64 10) (.int .i64 line) (.string nm) (.string arg) (.slice s.eP (idx).len s.dK) (.int .i64 bM) (.int .i64 xn) (.string bP) (.slice s.dJ aJ.len s.bS) (.slice s.bR b.len s.aZ) (.slice s.dY e.len s.dA) 89)
  generalize hW:World.alloc w _=W
  rw [hW] at HZ
  clear hW
  go_upto_region 2 with fail
  have HY:=Lib.hid (HZ.out.next (ah W (.cells #[.string ⟨#[]⟩,.string ⟨#[]⟩,.string ⟨#[105,102]⟩,.string ⟨#[119,104,105,108,101]⟩,.string ⟨#[108,111,99,107]⟩,.string ⟨#[114,101,97,100]⟩,.string ⟨#[119,114,105,116,101]⟩,.string ⟨#[116,114,97,110,115,97,99,116,105,111,110]⟩,.string ⟨#[97,116,111,109,105,99]⟩,.string ⟨#[119,97,105,116]⟩,.string ⟨#[110,111,116,105,102,121]⟩,.string ⟨#[110,111,116,105,102,121,97,108,108]⟩,.string ⟨#[115,112,97,119,110]⟩,.string ⟨#[106,111,105,110]⟩,.string ⟨#[115,101,116]⟩,.string ⟨#[103,101,116]⟩] 9)))
  have dF:=Lib.hid (heap_alloc_new W (.cells #[.string ⟨#[]⟩,.string ⟨#[]⟩,.string ⟨#[105,102]⟩,.string ⟨#[119,104,105,108,101]⟩,.string ⟨#[108,111,99,107]⟩,.string ⟨#[114,101,97,100]⟩,.string ⟨#[119,114,105,116,101]⟩,.string ⟨#[116,114,97,110,115,97,99,116,105,111,110]⟩,.string ⟨#[97,116,111,109,105,99]⟩,.string ⟨#[119,97,105,116]⟩,.string ⟨#[110,111,116,105,102,121]⟩,.string ⟨#[110,111,116,105,102,121,97,108,108]⟩,.string ⟨#[115,112,97,119,110]⟩,.string ⟨#[106,111,105,110]⟩,.string ⟨#[115,101,116]⟩,.string ⟨#[103,101,116]⟩] 9))
  generalize hW:World.alloc W _=W1
  rw [hW] at HY dF
  clear hW HZ
  have cw:W1.cell? ⟨W.heap.size,10,none⟩=some (.string wd):=by rw [← dD.out]; exact ak dF.out rfl
  obtain ⟨wb,hwb⟩: ∃g,W.heap.size=g:=⟨_,rfl⟩
  rw [hwb] at cw ⊢
  clear dF hwb
  obtain ⟨-,⟨-,c0⟩,⟨-,c1⟩,⟨-,c2⟩,⟨-,c3⟩,⟨-,c4⟩,⟨-,c5⟩,⟨-,c6⟩,⟨-,c7⟩,⟨-,c8⟩,⟨-,c9⟩,⟨-,c10⟩,-⟩:=HY.out
  go_wp2_with fail
  go_ret
  exact ⟨rfl,HY.out.1⟩
 ·have HE:Hid (eD ⟨11,line,nm,arg,idx,bM,xn,bP,aJ⟩=((iE 11++⟨#[32]⟩)++nm)++⟨#[59]⟩):=Lib.hid rfl
  rw [HE.out]
  clear HE HX
  obtain ⟨wd,dD⟩: ∃wd,Hid (iE 11=wd):=⟨_,Lib.hid rfl⟩
  have hwd:wd.size≤11:=by rw [← dD.out]; exact jA 11
  rw [dD.out]
  generalize bf bM xn bP aJ=xt at *
  unfold eB
  dsimp only
  go_enter Tryz.func99,Tryz.ntmps99
  go_upto_region 1 with fail
  have HZ:=Lib.hid ((Sit.start w).kT (n:=w.heap.size) rfl (.int .i64 11) (.int .i64 line) (.string nm) (.string arg) (.slice s.eP (idx).len s.dK) (.int .i64 bM) (.int .i64 xn) (.string bP) (.slice s.dJ aJ.len s.bS) (.slice s.bR b.len s.aZ) (.slice s.dY e.len s.dA) 89)
  generalize hW:World.alloc w _=W
  rw [hW] at HZ
  clear hW
  go_upto_region 2 with fail
  have HY:=Lib.hid (HZ.out.next (ah W (.cells #[.string ⟨#[]⟩,.string ⟨#[]⟩,.string ⟨#[105,102]⟩,.string ⟨#[119,104,105,108,101]⟩,.string ⟨#[108,111,99,107]⟩,.string ⟨#[114,101,97,100]⟩,.string ⟨#[119,114,105,116,101]⟩,.string ⟨#[116,114,97,110,115,97,99,116,105,111,110]⟩,.string ⟨#[97,116,111,109,105,99]⟩,.string ⟨#[119,97,105,116]⟩,.string ⟨#[110,111,116,105,102,121]⟩,.string ⟨#[110,111,116,105,102,121,97,108,108]⟩,.string ⟨#[115,112,97,119,110]⟩,.string ⟨#[106,111,105,110]⟩,.string ⟨#[115,101,116]⟩,.string ⟨#[103,101,116]⟩] 9)))
  have dF:=Lib.hid (heap_alloc_new W (.cells #[.string ⟨#[]⟩,.string ⟨#[]⟩,.string ⟨#[105,102]⟩,.string ⟨#[119,104,105,108,101]⟩,.string ⟨#[108,111,99,107]⟩,.string ⟨#[114,101,97,100]⟩,.string ⟨#[119,114,105,116,101]⟩,.string ⟨#[116,114,97,110,115,97,99,116,105,111,110]⟩,.string ⟨#[97,116,111,109,105,99]⟩,.string ⟨#[119,97,105,116]⟩,.string ⟨#[110,111,116,105,102,121]⟩,.string ⟨#[110,111,116,105,102,121,97,108,108]⟩,.string ⟨#[115,112,97,119,110]⟩,.string ⟨#[106,111,105,110]⟩,.string ⟨#[115,101,116]⟩,.string ⟨#[103,101,116]⟩] 9))
  generalize hW:World.alloc W _=W1
  rw [hW] at HY dF
  clear hW HZ
  have cw:W1.cell? ⟨W.heap.size,11,none⟩=some (.string wd):=by rw [← dD.out]; exact ak dF.out rfl
  obtain ⟨wb,hwb⟩: ∃g,W.heap.size=g:=⟨_,rfl⟩
  rw [hwb] at cw ⊢
  clear dF hwb
  obtain ⟨-,⟨-,c0⟩,⟨-,c1⟩,⟨-,c2⟩,⟨-,c3⟩,⟨-,c4⟩,⟨-,c5⟩,⟨-,c6⟩,⟨-,c7⟩,⟨-,c8⟩,⟨-,c9⟩,⟨-,c10⟩,-⟩:=HY.out
  go_wp2_with fail
  go_ret
  exact ⟨rfl,HY.out.1⟩
 ·have HE:Hid (eD ⟨12,line,nm,arg,idx,bM,xn,bP,aJ⟩=((iE 12++⟨#[32]⟩)++nm)++⟨#[59]⟩):=Lib.hid rfl
  rw [HE.out]
  clear HE HX
  obtain ⟨wd,dD⟩: ∃wd,Hid (iE 12=wd):=⟨_,Lib.hid rfl⟩
  have hwd:wd.size≤11:=by rw [← dD.out]; exact jA 12
  rw [dD.out]
  generalize bf bM xn bP aJ=xt at *
  unfold eB
  dsimp only
  go_enter Tryz.func99,Tryz.ntmps99
  go_upto_region 1 with fail
  have HZ:=Lib.hid ((Sit.start w).kT (n:=w.heap.size) rfl (.int .i64 12) (.int .i64 line) (.string nm) (.string arg) (.slice s.eP (idx).len s.dK) (.int .i64 bM) (.int .i64 xn) (.string bP) (.slice s.dJ aJ.len s.bS) (.slice s.bR b.len s.aZ) (.slice s.dY e.len s.dA) 89)
  generalize hW:World.alloc w _=W
  rw [hW] at HZ
  clear hW
  go_upto_region 2 with fail
  have HY:=Lib.hid (HZ.out.next (ah W (.cells #[.string ⟨#[]⟩,.string ⟨#[]⟩,.string ⟨#[105,102]⟩,.string ⟨#[119,104,105,108,101]⟩,.string ⟨#[108,111,99,107]⟩,.string ⟨#[114,101,97,100]⟩,.string ⟨#[119,114,105,116,101]⟩,.string ⟨#[116,114,97,110,115,97,99,116,105,111,110]⟩,.string ⟨#[97,116,111,109,105,99]⟩,.string ⟨#[119,97,105,116]⟩,.string ⟨#[110,111,116,105,102,121]⟩,.string ⟨#[110,111,116,105,102,121,97,108,108]⟩,.string ⟨#[115,112,97,119,110]⟩,.string ⟨#[106,111,105,110]⟩,.string ⟨#[115,101,116]⟩,.string ⟨#[103,101,116]⟩] 9)))
  have dF:=Lib.hid (heap_alloc_new W (.cells #[.string ⟨#[]⟩,.string ⟨#[]⟩,.string ⟨#[105,102]⟩,.string ⟨#[119,104,105,108,101]⟩,.string ⟨#[108,111,99,107]⟩,.string ⟨#[114,101,97,100]⟩,.string ⟨#[119,114,105,116,101]⟩,.string ⟨#[116,114,97,110,115,97,99,116,105,111,110]⟩,.string ⟨#[97,116,111,109,105,99]⟩,.string ⟨#[119,97,105,116]⟩,.string ⟨#[110,111,116,105,102,121]⟩,.string ⟨#[110,111,116,105,102,121,97,108,108]⟩,.string ⟨#[115,112,97,119,110]⟩,.string ⟨#[106,111,105,110]⟩,.string ⟨#[115,101,116]⟩,.string ⟨#[103,101,116]⟩] 9))
  generalize hW:World.alloc W _=W1
  rw [hW] at HY dF
  clear hW HZ
  have cw:W1.cell? ⟨W.heap.size,12,none⟩=some (.string wd):=by rw [← dD.out]; exact ak dF.out rfl
  obtain ⟨wb,hwb⟩: ∃g,W.heap.size=g:=⟨_,rfl⟩
  rw [hwb] at cw ⊢
  clear dF hwb
  obtain ⟨-,⟨-,c0⟩,⟨-,c1⟩,⟨-,c2⟩,⟨-,c3⟩,⟨-,c4⟩,⟨-,c5⟩,⟨-,c6⟩,⟨-,c7⟩,⟨-,c8⟩,⟨-,c9⟩,⟨-,c10⟩,-⟩:=HY.out
  go_wp2_with fail
  go_ret
  exact ⟨rfl,HY.out.1⟩
 ·have HE:Hid (eD ⟨13,line,nm,arg,idx,bM,xn,bP,aJ⟩=((iE 13++⟨#[32]⟩)++nm)++⟨#[59]⟩):=Lib.hid rfl
  rw [HE.out]
  clear HE HX
  obtain ⟨wd,dD⟩: ∃wd,Hid (iE 13=wd):=⟨_,Lib.hid rfl⟩
  have hwd:wd.size≤11:=by rw [← dD.out]; exact jA 13
  rw [dD.out]
  generalize bf bM xn bP aJ=xt at *
  unfold eB
  dsimp only
  go_enter Tryz.func99,Tryz.ntmps99
  go_upto_region 1 with fail
  have HZ:=Lib.hid ((Sit.start w).kT (n:=w.heap.size) rfl (.int .i64 13) (.int .i64 line) (.string nm) (.string arg) (.slice s.eP (idx).len s.dK) (.int .i64 bM) (.int .i64 xn) (.string bP) (.slice s.dJ aJ.len s.bS) (.slice s.bR b.len s.aZ) (.slice s.dY e.len s.dA) 89)
  generalize hW:World.alloc w _=W
  rw [hW] at HZ
  clear hW
  go_upto_region 2 with fail
  have HY:=Lib.hid (HZ.out.next (ah W (.cells #[.string ⟨#[]⟩,.string ⟨#[]⟩,.string ⟨#[105,102]⟩,.string ⟨#[119,104,105,108,101]⟩,.string ⟨#[108,111,99,107]⟩,.string ⟨#[114,101,97,100]⟩,.string ⟨#[119,114,105,116,101]⟩,.string ⟨#[116,114,97,110,115,97,99,116,105,111,110]⟩,.string ⟨#[97,116,111,109,105,99]⟩,.string ⟨#[119,97,105,116]⟩,.string ⟨#[110,111,116,105,102,121]⟩,.string ⟨#[110,111,116,105,102,121,97,108,108]⟩,.string ⟨#[115,112,97,119,110]⟩,.string ⟨#[106,111,105,110]⟩,.string ⟨#[115,101,116]⟩,.string ⟨#[103,101,116]⟩] 9)))
  have dF:=Lib.hid (heap_alloc_new W (.cells #[.string ⟨#[]⟩,.string ⟨#[]⟩,.string ⟨#[105,102]⟩,.string ⟨#[119,104,105,108,101]⟩,.string ⟨#[108,111,99,107]⟩,.string ⟨#[114,101,97,100]⟩,.string ⟨#[119,114,105,116,101]⟩,.string ⟨#[116,114,97,110,115,97,99,116,105,111,110]⟩,.string ⟨#[97,116,111,109,105,99]⟩,.string ⟨#[119,97,105,116]⟩,.string ⟨#[110,111,116,105,102,121]⟩,.string ⟨#[110,111,116,105,102,121,97,108,108]⟩,.string ⟨#[115,112,97,119,110]⟩,.string ⟨#[106,111,105,110]⟩,.string ⟨#[115,101,116]⟩,.string ⟨#[103,101,116]⟩] 9))
  generalize hW:World.alloc W _=W1
  rw [hW] at HY dF
  clear hW HZ
  have cw:W1.cell? ⟨W.heap.size,13,none⟩=some (.string wd):=by rw [← dD.out]; exact ak dF.out rfl
  obtain ⟨wb,hwb⟩: ∃g,W.heap.size=g:=⟨_,rfl⟩
  rw [hwb] at cw ⊢
  clear dF hwb
  obtain ⟨-,⟨-,c0⟩,⟨-,c1⟩,⟨-,c2⟩,⟨-,c3⟩,⟨-,c4⟩,⟨-,c5⟩,⟨-,c6⟩,⟨-,c7⟩,⟨-,c8⟩,⟨-,c9⟩,⟨-,c10⟩,-⟩:=HY.out
  go_wp2_with fail
  go_ret
  exact ⟨rfl,HY.out.1⟩
 ·have iB:=Lib.hid (HX.out rfl)
  have HE:Hid (eD ⟨14,line,nm,arg,idx,bM,xn,bP,aJ⟩=((((iE 14++⟨#[32]⟩)++nm)++⟨#[32]⟩)++bf bM xn bP aJ)++⟨#[59]⟩):=Lib.hid rfl
  rw [HE.out]
  clear HE HX
  have hxz:=PG.out
  obtain ⟨wd,dD⟩: ∃wd,Hid (iE 14=wd):=⟨_,Lib.hid rfl⟩
  have hwd:wd.size≤11:=by rw [← dD.out]; exact jA 14
  rw [dD.out]
  generalize bf bM xn bP aJ=xt at *
  unfold eB
  dsimp only
  go_enter Tryz.func99,Tryz.ntmps99
  go_upto_region 1 with fail
  have HZ:=Lib.hid ((Sit.start w).kT (n:=w.heap.size) rfl (.int .i64 14) (.int .i64 line) (.string nm) (.string arg) (.slice s.eP (idx).len s.dK) (.int .i64 bM) (.int .i64 xn) (.string bP) (.slice s.dJ aJ.len s.bS) (.slice s.bR b.len s.aZ) (.slice s.dY e.len s.dA) 89)
  generalize hW:World.alloc w _=W
  rw [hW] at HZ
  clear hW
  go_upto_region 2 with fail
  have HY:=Lib.hid (HZ.out.next (ah W (.cells #[.string ⟨#[]⟩,.string ⟨#[]⟩,.string ⟨#[105,102]⟩,.string ⟨#[119,104,105,108,101]⟩,.string ⟨#[108,111,99,107]⟩,.string ⟨#[114,101,97,100]⟩,.string ⟨#[119,114,105,116,101]⟩,.string ⟨#[116,114,97,110,115,97,99,116,105,111,110]⟩,.string ⟨#[97,116,111,109,105,99]⟩,.string ⟨#[119,97,105,116]⟩,.string ⟨#[110,111,116,105,102,121]⟩,.string ⟨#[110,111,116,105,102,121,97,108,108]⟩,.string ⟨#[115,112,97,119,110]⟩,.string ⟨#[106,111,105,110]⟩,.string ⟨#[115,101,116]⟩,.string ⟨#[103,101,116]⟩] 9)))
  have dF:=Lib.hid (heap_alloc_new W (.cells #[.string ⟨#[]⟩,.string ⟨#[]⟩,.string ⟨#[105,102]⟩,.string ⟨#[119,104,105,108,101]⟩,.string ⟨#[108,111,99,107]⟩,.string ⟨#[114,101,97,100]⟩,.string ⟨#[119,114,105,116,101]⟩,.string ⟨#[116,114,97,110,115,97,99,116,105,111,110]⟩,.string ⟨#[97,116,111,109,105,99]⟩,.string ⟨#[119,97,105,116]⟩,.string ⟨#[110,111,116,105,102,121]⟩,.string ⟨#[110,111,116,105,102,121,97,108,108]⟩,.string ⟨#[115,112,97,119,110]⟩,.string ⟨#[106,111,105,110]⟩,.string ⟨#[115,101,116]⟩,.string ⟨#[103,101,116]⟩] 9))
  generalize hW:World.alloc W _=W1
  rw [hW] at HY dF
  clear hW HZ
  have cw:W1.cell? ⟨W.heap.size,14,none⟩=some (.string wd):=by rw [← dD.out]; exact ak dF.out rfl
  obtain ⟨wb,hwb⟩: ∃g,W.heap.size=g:=⟨_,rfl⟩
  rw [hwb] at cw ⊢
  clear dF hwb
  obtain ⟨-,⟨-,c0⟩,⟨-,c1⟩,⟨-,c2⟩,⟨-,c3⟩,⟨-,c4⟩,⟨-,c5⟩,⟨-,c6⟩,⟨-,c7⟩,⟨-,c8⟩,⟨-,c9⟩,⟨-,c10⟩,-⟩:=HY.out
  go_upto_region 20 with fail
  obtain ⟨T,F,D6,hst,hF,hnext⟩:=calm W1
  have HF:=Lib.hid hF
  have fQ:=Lib.hid hnext
  clear hnext hF
  have d0:=fun x=>(HY.out.next (HF.out x)).2.1.2
  have d1:=fun x=>(HY.out.next (HF.out x)).2.2.1.2
  have d2:=fun x=>(HY.out.next (HF.out x)).2.2.2.1.2
  have d3:=fun x=>(HY.out.next (HF.out x)).2.2.2.2.1.2
  have d4:=fun x=>(HY.out.next (HF.out x)).2.2.2.2.2.1.2
  have d5:=fun x=>(HY.out.next (HF.out x)).2.2.2.2.2.2.1.2
  have d6:=fun x=>(HY.out.next (HF.out x)).2.2.2.2.2.2.2.1.2
  have d7:=fun x=>(HY.out.next (HF.out x)).2.2.2.2.2.2.2.2.1.2
  have d8:=fun x=>(HY.out.next (HF.out x)).2.2.2.2.2.2.2.2.2.1.2
  have d9:=fun x=>(HY.out.next (HF.out x)).2.2.2.2.2.2.2.2.2.2.1.2
  have lG:=fun x=>(HY.out.next (HF.out x)).2.2.2.2.2.2.2.2.2.2.2.1.2
  clear c0 c1 c2 c3 c4 c5 c6 c7 c8 c9 c10
  refine kH F (by kernel_rfl) (by kernel_rfl) hst ?_
  repeat (any_goals (first | go_big_quiet_step ((go_at_call 19; refine (iB.out _ (HY.out.1.trans ((HF.out _).mono HY.out.1.size))).mono ?_; rintro e' w' ⟨rfl,hb⟩; exact ⟨rfl,fQ.out _ _ hb⟩)) | (refine wpQuiet_step (fun K hK=> ?_); go_simp; first | (refine hK _ ?_; clear hK K) | (split <;> first | (refine hK _ ?_; clear hK K) | (apply Exists.intro; refine ⟨fun _=> ?_,hK _ ?_⟩; ((go_at_call 19; refine (iB.out _ (HY.out.1.trans ((HF.out _).mono HY.out.1.size))).mono ?_; rintro e' w' ⟨rfl,hb⟩; exact ⟨rfl,fQ.out _ _ hb⟩)); clear hK K)))))
  all_goals (refine wpQuiet_nil ?_; rintro _ ⟨x,rfl⟩)
  have HB:=Lib.hid (HY.out.1.trans ((HF.out x).mono HY.out.1.size))
  clear d0 d1 d2 d3 d4 d5 d6 d7 d8 d9 lG HF fQ hst
  generalize F x=W3 at *
  go_wp2_with fail
  go_ret
  exact ⟨rfl,HB.out⟩
 ·have HE:Hid (eD ⟨15,line,nm,arg,idx,bM,xn,bP,aJ⟩=((((iE 15++⟨#[32]⟩)++nm)++⟨#[32]⟩)++arg)++⟨#[59]⟩):=Lib.hid rfl
  rw [HE.out]
  clear HE HX
  obtain ⟨wd,dD⟩: ∃wd,Hid (iE 15=wd):=⟨_,Lib.hid rfl⟩
  have hwd:wd.size≤11:=by rw [← dD.out]; exact jA 15
  rw [dD.out]
  generalize bf bM xn bP aJ=xt at *
  unfold eB
  dsimp only
  go_enter Tryz.func99,Tryz.ntmps99
  go_upto_region 1 with fail
  have HZ:=Lib.hid ((Sit.start w).kT (n:=w.heap.size) rfl (.int .i64 15) (.int .i64 line) (.string nm) (.string arg) (.slice s.eP (idx).len s.dK) (.int .i64 bM) (.int .i64 xn) (.string bP) (.slice s.dJ aJ.len s.bS) (.slice s.bR b.len s.aZ) (.slice s.dY e.len s.dA) 89)
  generalize hW:World.alloc w _=W
  rw [hW] at HZ
  clear hW
  go_upto_region 2 with fail
  have HY:=Lib.hid (HZ.out.next (ah W (.cells #[.string ⟨#[]⟩,.string ⟨#[]⟩,.string ⟨#[105,102]⟩,.string ⟨#[119,104,105,108,101]⟩,.string ⟨#[108,111,99,107]⟩,.string ⟨#[114,101,97,100]⟩,.string ⟨#[119,114,105,116,101]⟩,.string ⟨#[116,114,97,110,115,97,99,116,105,111,110]⟩,.string ⟨#[97,116,111,109,105,99]⟩,.string ⟨#[119,97,105,116]⟩,.string ⟨#[110,111,116,105,102,121]⟩,.string ⟨#[110,111,116,105,102,121,97,108,108]⟩,.string ⟨#[115,112,97,119,110]⟩,.string ⟨#[106,111,105,110]⟩,.string ⟨#[115,101,116]⟩,.string ⟨#[103,101,116]⟩] 9)))
  have dF:=Lib.hid (heap_alloc_new W (.cells #[.string ⟨#[]⟩,.string ⟨#[]⟩,.string ⟨#[105,102]⟩,.string ⟨#[119,104,105,108,101]⟩,.string ⟨#[108,111,99,107]⟩,.string ⟨#[114,101,97,100]⟩,.string ⟨#[119,114,105,116,101]⟩,.string ⟨#[116,114,97,110,115,97,99,116,105,111,110]⟩,.string ⟨#[97,116,111,109,105,99]⟩,.string ⟨#[119,97,105,116]⟩,.string ⟨#[110,111,116,105,102,121]⟩,.string ⟨#[110,111,116,105,102,121,97,108,108]⟩,.string ⟨#[115,112,97,119,110]⟩,.string ⟨#[106,111,105,110]⟩,.string ⟨#[115,101,116]⟩,.string ⟨#[103,101,116]⟩] 9))
  generalize hW:World.alloc W _=W1
  rw [hW] at HY dF
  clear hW HZ
  have cw:W1.cell? ⟨W.heap.size,15,none⟩=some (.string wd):=by rw [← dD.out]; exact ak dF.out rfl
  obtain ⟨wb,hwb⟩: ∃g,W.heap.size=g:=⟨_,rfl⟩
  rw [hwb] at cw ⊢
  clear dF hwb
  obtain ⟨-,⟨-,c0⟩,⟨-,c1⟩,⟨-,c2⟩,⟨-,c3⟩,⟨-,c4⟩,⟨-,c5⟩,⟨-,c6⟩,⟨-,c7⟩,⟨-,c8⟩,⟨-,c9⟩,⟨-,c10⟩,-⟩:=HY.out
  go_wp2_with fail
  go_ret
  exact ⟨rfl,HY.out.1⟩
end Go.Proofs.YtehnipchbmjlhaaGreatDoor
end
section
set_option linter.unusedVariables false
namespace Go.Proofs.YtehnipchbmjlhaaGreatDoor
open Go.RowKit
open Md Fm
def lW:aI→Nat
 | .nil=>0
 | .cons _ b e r=>1 + lW b + lW e + lW r
theorem vH: ∀l:aI,200 * lW l≤jw l
 | .nil=>Nat.le_refl _
 | .cons h b e r=>by
   have h1:=vH b
   have h2:=vH e
   have h3:=vH r
   have h4:200≤vG h:=by unfold vG; omega
   simp only [lW,jw]; omega
theorem Vj {w:World} {B:Nat} (h:aW) {ao:Option Addr} (hi:h.idx.At w B ao 0):(YB h).size≤pX h.idx + 2:=by
 unfold YB
 cases hx:h.idx with
 | nil=>exact Nat.zero_le _
 | cons op n nm kids r=>
   rw [hx] at hi
   obtain ⟨⟨b,off,gM,cap,e,hB,c0,c1,c2,c3,hok,hk⟩,hr⟩:=hi
   have:=jc op n nm hok.2.1 hk
   unfold lD at this
   dsimp only
   simp only [ByteArray.size_append,pX]; rw [show (⟨#[91]⟩:ByteArray).size=1 from rfl,show (⟨#[93]⟩:ByteArray).size=1 from rfl]; omega
theorem head_size {w:World} {B:Nat} (h:aW) {ao gM:Option Addr} (hi:h.idx.At w B ao 0) (hn:aV h.xn) (hk:h.aJ.At w B gM 0):(eD h).size + 100≤vG h:=by
 have h1:=Vj h hi
 have h2:(xB h).size≤lD h.bP h.aJ:=jc _ _ _ hn hk
 have h3:=jA h.op
 have e1:(⟨#[32,61,32]⟩:ByteArray).size=3:=rfl
 have e2:(⟨#[59]⟩:ByteArray).size=1:=rfl
 have e3:(⟨#[32]⟩:ByteArray).size=1:=rfl
 have e4:(⟨#[32,123]⟩:ByteArray).size=2:=rfl
 unfold eD vG
 split
 ·simp only [ByteArray.size_append,e1,e2]; omega
 ·split
  ·simp only [ByteArray.size_append,e3,e4]; omega
  ·split
   ·simp only [ByteArray.size_append,e3,e4]; omega
   ·split
    ·simp only [ByteArray.size_append,e4]; omega
    ·split
     ·simp only [ByteArray.size_append,e2,e3]; omega
     ·split
      ·simp only [ByteArray.size_append,e2,e3]; omega
      ·simp only [ByteArray.size_append,e2,e3]; omega
theorem Sq (d:Nat) (h:aW) (b e:ByteArray) (ne:Bool):(FC d h b e ne).size≤6 * d + (eD h).size + b.size + e.size + 20:=by
 have e1:(⟨#[10]⟩:ByteArray).size=1:=rfl
 have e2:(⟨#[125,10]⟩:ByteArray).size=2:=rfl
 have e3:Pe.size=9:=rfl
 unfold FC
 split
 ·exact Nat.zero_le _
 ·split
  ·simp only [ByteArray.size_append,uy,e1]; omega
  ·split
   ·simp only [ByteArray.size_append,uy,e1,e2]; omega
   ·simp only [ByteArray.size_append,uy,e1,e2,e3]; omega
theorem yJ {w:World} {B:Nat} : ∀ {l:aI} {ao:Option Addr} {k:Nat} (d:Nat),l.At w B ao k→(jV l d).size≤jw l + 6 * d * lW l
 | .nil,_,_,_,_=>Nat.zero_le _
 | .cons h b e r,ao,k,d,hat=>by
   obtain ⟨⟨bl,off,eP,dK,dJ,bS,bR,aZ,dY,dA,eq,hB,c0,c1,c2,c3,c4,c5,c6,c7,c8,c9,c10,hok,h1,h2,h3,h4⟩,hr⟩:=hat
   have s1:=yJ (d + 1) h3
   have s2:=yJ (d + 1) h4
   have s3:=yJ d hr
   have s4:=head_size h h1 hok.2.2.2.2.2.1.2.1 h2
   have s5:=Sq d h (jV b (d + 1)) (jV e (d + 1)) (iw e)
   have k1:=vH b
   have k2:=vH e
   have m1:6 * (d + 1) * lW b=6 * d * lW b + 6 * lW b:=by rw [Nat.mul_add,Nat.add_mul]
   have m2:6 * (d + 1) * lW e=6 * d * lW e + 6 * lW e:=by rw [Nat.mul_add,Nat.add_mul]
   have m3:6 * d * (1 + lW b + lW e + lW r)=6 * d + 6 * d * lW b + 6 * d * lW e + 6 * d * lW r:=by rw [Nat.mul_add,Nat.mul_add,Nat.mul_add,Nat.mul_one]
   simp only [jV,lW,jw,ByteArray.size_append]
   rw [m3]
   omega
end Go.Proofs.YtehnipchbmjlhaaGreatDoor
end
section
set_option linter.unusedSimpArgs false
set_option linter.unusedVariables false
namespace Go.Proofs.YtehnipchbmjlhaaGreatDoor
open Go.RowKit
open Md Fm
def Bo (h:aW) (b e:aI):Prop:=
 ∀(w:World) (s:Sl) (d:Nat),Ba w h b e s→tu h b e=true→2 ^ d * (vG h + 2 * jw b + 2 * jw e)≤2 ^ 50→iM w→
  Calls Tryz.prog 61 #[eB h b e s,.int .i64 (d:Int)] w fun e' w'=>e'= .returned (.string (Oh d h b e))∧Below w.heap.size w w'
def OZ (l:aI):Prop:=
 ∀(w:World) (ao:Option Addr) (cap d:Nat),l.len≤maxLen→gy l=true→2 ^ d * jw l≤2 ^ 50→l.At w w.heap.size ao 0→iM w→
  Calls Tryz.prog 31 #[.slice ao l.len cap,.int .i64 (d:Int)] w fun e' w'=>e'= .returned (.string (jV l d))∧Below w.heap.size w w'
theorem YE {d q:Nat} (hq:1≤q) (h:2 ^ d * q≤2 ^ 50):d≤50:=by
 have h1:2 ^ d≤2 ^ 50:=Nat.le_trans (Nat.le_mul_of_pos_right _ hq) h
 exact (Nat.pow_le_pow_iff_right (by decide)).1 h1
theorem Yd {d q:Nat} (h:2 ^ d * q≤2 ^ 50):q≤1125899906842624:=by
 have h1:0 < 2 ^ d:=Nat.pow_pos (by decide)
 have h2:q≤2 ^ d * q:=Nat.le_mul_of_pos_left _ h1
 have h3:(2:Nat) ^ 50=1125899906842624:=by decide
 omega
theorem Vn {h:aW} {b e r:aI} :1≤jw (.cons h b e r):=by
 simp only [jw,vG]; omega
theorem NG {w:World} {B:Nat} {l:aI} {ao:Option Addr} {k d:Nat} (h:l.At w B ao k) (hq:2 ^ d * jw l≤2 ^ 50):(jV l d).size≤4503599627370496:=by
 cases l with
 | nil=>exact Nat.zero_le _
 | cons hh b e r=>
   have h1:=yJ d h
   have h2:=vH (.cons hh b e r)
   have h3:=YE Vn hq
   have h4:=Yd hq
   generalize lW (.cons hh b e r)=c at *
   generalize jw (.cons hh b e r)=q at *
   have h5:6 * d * c≤300 * c:=Nat.mul_le_mul_right _ (by omega)
   omega
theorem jS (a b c:ByteArray):(a++b)++c=a++(b++c):=by
 apply ByteArray.ext; simp
theorem wO (a:ByteArray):(⟨#[]⟩:ByteArray)++a=a:=by
 apply ByteArray.ext; simp
theorem nH (a:ByteArray):a++(⟨#[]⟩:ByteArray)=a:=by
 apply ByteArray.ext; simp
set_option maxHeartbeats 4000000 in
set_option maxRecDepth 100000 in
theorem Aq (l:aI) (ih:l.All Bo):OZ l:=by
 intro w ao cap d hl hsh hq hat hp
 unfold maxLen at hl
 have iZ:=Lib.hid (NG hat hq)
 have iD:=Lib.hid hp
 obtain ⟨res,gB⟩: ∃res,Hid (jV l d=res):=⟨_,Lib.hid rfl⟩
 rw [gB.out] at iZ ⊢
 clear hp
 go_enter Tryz.func31,Tryz.ntmps31
 go_wp2_with fail
 go_loopw [5,6] (fun s i wr=> ∃(k:Nat) (R:aI) (t:ByteArray),i= .int .i64 k∧s= .string t∧k + R.len=l.len∧t++jV R d=res∧gy R=true∧2 ^ d * jw R≤2 ^ 50∧R.All Bo∧R.At wr wr.heap.size ao k∧Below w.heap.size w wr) (fun _ i _=>l.len - (intOf i).toNat)
 case atStart=>exact ⟨0,l,⟨#[]⟩,rfl,rfl,by simp,by rw [wO]; exact gB.out,hsh,hq,ih,hat,Below.refl _ _⟩
 case round=>
  obtain ⟨k,R,t,rfl,rfl,hlen,heq,hsr,hqr,hall,hrow,hB⟩:=hrel
  have HE:=Lib.hid heq
  have HB:=Lib.hid hB
  clear heq hsh hq ih hat hB
  cases R with
  | nil=>
    obtain rfl:k=l.len:=by simpa [aI.len] using hlen
    have HT:Hid (t=res):=Lib.hid (by rw [← HE.out]; exact (nH t).symm)
    go_wp2_with fail
    go_ret
    exact ⟨by rw [← HT.out]; rfl,HB.out⟩
  | cons h b e R=>
    obtain ⟨bl,off,s,rfl,hbl,hin,x0,x1,x2,x3,x4,x5,x6,x7,x8,x9,x10,hrest⟩:=aI.At.head hrow
    obtain ⟨yX,wB⟩:=hall
    have hkl:k < l.len:=by simp only [aI.len] at hlen; omega
    rw [zh,Bool.and_eq_true] at hsr
    have hq1:2 ^ d * (vG h + 2 * jw b + 2 * jw e)≤2 ^ 50:=Nat.le_trans (Nat.mul_le_mul_left _ (by simp only [jw]; omega)) hqr
    have hq2:2 ^ d * jw R≤2 ^ 50:=Nat.le_trans (Nat.mul_le_mul_left _ (by simp only [jw]; omega)) hqr
    have HC:=Lib.hid (yX wr s d hin hsr.1 hq1 (iD.out.next HB.out))
    have HE2:Hid (res=(t++Oh d h b e)++jV R d):=Lib.hid (by rw [← HE.out,jS]; rfl)
    have hts:t.size + (Oh d h b e).size≤4503599627370496:=by
     have:=iZ.out
     rw [HE2.out] at this
     simp only [ByteArray.size_append] at this
     omega
    have HR:=Lib.hid (And.intro hrest (And.intro hq2 (And.intro hsr.2 wB)))
    have HLEN:=Lib.hid hlen
    generalize Oh d h b e=st at *
    have ht1:t.size≤4503599627370496:=by omega
    have ht2:st.size≤4503599627370496:=by omega
    clear hrow hin hq1 hq2 hqr hsr yX wB hrest hlen HE hts
    go_wp2_with fail
    refine HC.out.mono ?_
    rintro e' w2 ⟨rfl,hb2⟩
    have HB3:=Lib.hid hb2
    clear hb2 x0 x1 x2 x3 x4 x5 x6 x7 x8 x9 x10
    go_wp2_with fail
    go_roundw
    case rel=>exact ⟨k + 1,R,t++st,by go_num,rfl,by have:=HLEN.out; simp only [aI.len] at this; omega,HE2.out.symm,HR.out.2.2.1,HR.out.2.1,HR.out.2.2.2,HR.out.1.same HB3.out,HB.out.trans (HB3.out.mono HB.out.size)⟩
    case measure=>simp [intOf]; omega
theorem Qw (op line:Int) (nm arg:ByteArray) (idx:aH) (bM xn:Int) (bP:ByteArray) (aJ:aH) (b e:aI) (s:Sl):(Value.agg #[.int .i64 op,.int .i64 line,.string nm,.string arg,.slice s.eP idx.len s.dK,.int .i64 bM,.int .i64 xn,.string bP,.slice s.dJ aJ.len s.bS,.slice s.bR b.len s.aZ,.slice s.dY e.len s.dA])=eB ⟨op,line,nm,arg,idx,bM,xn,bP,aJ⟩ b e s:=rfl
theorem aj9 (d:Nat):max (d:Int) 0=(d:Int):=by omega
set_option maxHeartbeats 4000000 in
set_option maxRecDepth 100000 in
theorem Nl (h:aW) (b e:aI) (ihb:b.All Bo) (JE:e.All Bo):Bo h b e:=by
 intro w s d hin hsh hq hp
 have av7:d≤50:=YE (by unfold vG; omega) hq
 have am8:=Yd hq
 have vk:=Lib.hid (Aq b ihb)
 have Hu:=Lib.hid (Aq e JE)
 have hs1:iy h b.len e.len=true∧gy b=true∧gy e=true:=by
  unfold tu at hsh; simp only [Bool.and_eq_true] at hsh; exact hsh
 have WE:2 ^ (d + 1) * jw b≤2 ^ 50:=Nat.le_trans (by rw [Nat.pow_succ,Nat.mul_assoc]; exact Nat.mul_le_mul_left _ (by omega)) hq
 have hqe:2 ^ (d + 1) * jw e≤2 ^ 50:=Nat.le_trans (by rw [Nat.pow_succ,Nat.mul_assoc]; exact Nat.mul_le_mul_left _ (by omega)) hq
 have hop:=shO hs1.1
 have qw:=Lib.hid (fun w' hb=>Sz h b e s w' (hin.same hb) hs1.1 (by omega) (hp.next hb))
 have pJ:=Lib.hid (fun w' hb=>vk.out w' s.bR s.aZ (d + 1) hin.1.2.2.2.2.2.2.1 hs1.2.1 WE (hin.same hb).2.2.2.1 (hp.next hb))
 have HCE:=Lib.hid (fun w' hb=>Hu.out w' s.dY s.dA (d + 1) hin.1.2.2.2.2.2.2.2 hs1.2.2 hqe (hin.same hb).2.2.2.2 (hp.next hb))
 have hz1:(eD h).size≤4503599627370496:=by have:=head_size h hin.2.1 hin.1.2.2.2.2.2.1.2.1 hin.2.2.1; omega
 have hz2:(jV b (d + 1)).size≤4503599627370496:=NG hin.2.2.2.1 WE
 have hz3:(jV e (d + 1)).size≤4503599627370496:=NG hin.2.2.2.2 hqe
 have hz4:(mE d).size≤100:=by rw [uy]; omega
 obtain ⟨res,gB⟩: ∃res,Hid (Oh d h b e=res):=⟨_,Lib.hid rfl⟩
 have U3:Hid (res=FC d h (jV b (d + 1)) (jV e (d + 1)) (iw e)):=Lib.hid gB.out.symm
 have ao4:=Lib.hid (fun w=>MP d (by omega) w)
 rw [gB.out]
 clear gB hin hsh hq hp vk Hu hs1 WE hqe ihb JE am8
 have HST:Hid (res=if h.op < 2 || 8 < h.op then (mE d++eD h)++⟨#[10]⟩ else if iw e then ((((mE d++eD h)++⟨#[10]⟩)++jV b (d + 1))++mE d)++⟨#[125,10]⟩ else (((((((mE d++eD h)++⟨#[10]⟩)++jV b (d + 1))++mE d)++Pe)++jV e (d + 1))++mE d)++⟨#[125,10]⟩):=Lib.hid (by
  rw [U3.out]; unfold FC
  rw [if_neg (by simp; omega)])
 clear U3
 generalize eD h=hd at *
 generalize jV b (d + 1)=tb at *
 generalize jV e (d + 1)=te at *
 generalize mE d=ind at *
 obtain ⟨op,line,nm,arg,idx,bM,xn,bP,aJ⟩:=h
 dsimp only at HST hop
 have hmax:=aj9 d
 unfold eB
 dsimp only
 go_enter Tryz.func61,Tryz.ntmps61
 go_upto_region 1 with fail
 have HZ:=Lib.hid ((Sit.start w).kT (n:=w.heap.size) rfl (.int .i64 op) (.int .i64 line) (.string nm) (.string arg) (.slice s.eP idx.len s.dK) (.int .i64 bM) (.int .i64 xn) (.string bP) (.slice s.dJ aJ.len s.bS) (.slice s.bR b.len s.aZ) (.slice s.dY e.len s.dA) 89)
 generalize hW:World.alloc w _=W
 rw [hW] at HZ
 clear hW
 obtain ⟨-,⟨-,c0⟩,⟨-,c1⟩,⟨-,c2⟩,⟨-,c3⟩,⟨-,c4⟩,⟨-,c5⟩,⟨-,c6⟩,⟨-,c7⟩,⟨-,c8⟩,⟨-,c9⟩,⟨-,c10⟩,-⟩:=HZ.out
 have hop1: ¬ op < 1:=by omega
 have hop2: ¬ 15 < op:=by omega
 go_wp2_with fail
 refine (ao4.out _).mono ?_
 rintro e' w2 ⟨rfl,rfl⟩
 go_wp2_with fail
 rw [Qw]
 refine (qw.out _ HZ.out.1).mono ?_
 rintro e' w3 ⟨rfl,hb⟩
 have HY:=Lib.hid (HZ.out.next hb)
 clear hb c0 c1 c2 c3 c4 c5 c6 c7 c8 c9 c10 HZ
 obtain ⟨-,⟨-,c0⟩,⟨-,c1⟩,⟨-,c2⟩,⟨-,c3⟩,⟨-,c4⟩,⟨-,c5⟩,⟨-,c6⟩,⟨-,c7⟩,⟨-,c8⟩,⟨-,c9⟩,⟨-,c10⟩,-⟩:=HY.out
 by_cases hb:op < 2∨8 < op
 ·have HR:=Lib.hid (HST.out.trans (if_pos (by simpa using hb)))
  rcases hb with hb | hb
  ·go_wp2_with fail
   go_ret
   exact ⟨by rw [HR.out]; rfl,HY.out.1⟩
  ·have hb': ¬ op < 2:=by omega
   go_wp2_with fail
   go_ret
   exact ⟨by rw [HR.out]; rfl,HY.out.1⟩
 ·have HR:=Lib.hid (HST.out.trans (if_neg (by simpa using hb)))
  have hb1: ¬ op < 2:=by omega
  have hb2: ¬ 8 < op:=by omega
  clear hb HST
  go_wp2_with fail
  refine (pJ.out _ HY.out.1).mono ?_
  rintro e' w4 ⟨rfl,hb⟩
  have HV:=Lib.hid (HY.out.next hb)
  clear hb c0 c1 c2 c3 c4 c5 c6 c7 c8 c9 c10 HY
  obtain ⟨-,⟨-,c0⟩,⟨-,c1⟩,⟨-,c2⟩,⟨-,c3⟩,⟨-,c4⟩,⟨-,c5⟩,⟨-,c6⟩,⟨-,c7⟩,⟨-,c8⟩,⟨-,c9⟩,⟨-,c10⟩,-⟩:=HV.out
  cases e with
  | nil=>
    have HR2:=Lib.hid (HR.out.trans (if_pos rfl))
    simp only [aI.len] at c10
    go_wp2_with fail
    go_ret
    exact ⟨by rw [HR2.out]; rfl,HV.out.1⟩
  | cons he be ee re=>
    have HR2:=Lib.hid (HR.out.trans (if_neg (show ¬ false=true by decide)))
    have hlr:(0:Int) < ((aI.len (.cons he be ee re):Nat):Int):=by simp only [aI.len]; omega
    generalize aI.cons he be ee re=e at *
    unfold Pe at HR2
    go_wp2_with fail
    refine (HCE.out _ HV.out.1).mono ?_
    rintro e' w5 ⟨rfl,hb⟩
    have HU:=Lib.hid ((HV.out.next hb).1)
    clear hb c0 c1 c2 c3 c4 c5 c6 c7 c8 c9 c10
    go_wp2_with fail
    go_ret
    exact ⟨by rw [HR2.out]; rfl,HU.out⟩
theorem Nz (l:aI):OZ l:=Aq l (aI.mZ Nl l)
end Go.Proofs.YtehnipchbmjlhaaGreatDoor
end
