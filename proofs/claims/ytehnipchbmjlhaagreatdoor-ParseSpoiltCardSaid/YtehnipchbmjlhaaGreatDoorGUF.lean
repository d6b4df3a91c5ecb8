/-
  Contract of the second parser's assignment.
  Contract of the second parser's statement, out of that of block.
-/
import Derived.Test.YtehnipchbmjlhaaGreatDoorGUD
set_option linter.unusedSimpArgs false
set_option linter.unusedVariables false
set_option maxHeartbeats 40000000
set_option maxRecDepth 1000000
section
namespace Go.Proofs.YtehnipchbmjlhaaGreatDoor
open Go.RowKit
open Md Pz
theorem iE {R:Rp} {w:World} {bz bs B:Nat} {W:World} {x:dG} {s:St} (h:Pn R w bz bs B W x s):
 W.cell? ⟨bs,0,none⟩=some (.int .i64 x.h.op)∧W.cell? ⟨bs,1,none⟩=some (.int .i64 x.h.line)∧W.cell? ⟨bs,2,none⟩=some (.string x.h.nm)∧W.cell? ⟨bs,3,none⟩=some (.string x.h.arg)∧W.cell? ⟨bs,4,none⟩=some (.slice x.s.fH x.h.idx.len x.s.dW)∧
 W.cell? ⟨bs,5,none⟩=some (.int .i64 x.h.bV)∧W.cell? ⟨bs,6,none⟩=some (.int .i64 x.h.xn)∧W.cell? ⟨bs,7,none⟩=some (.string x.h.bU)∧W.cell? ⟨bs,8,none⟩=some (.slice x.s.cB x.h.aO.len x.s.bF)∧W.cell? ⟨bs,9,none⟩=some (.slice x.s.bC x.b.len x.s.aV)∧W.cell? ⟨bs,10,none⟩=some (.slice x.s.eZ x.e.len x.s.dL):=
 ⟨h.cell rfl,h.cell rfl,h.cell rfl,h.cell rfl,h.cell rfl,h.cell rfl,h.cell rfl,h.cell rfl,h.cell rfl,h.cell rfl,h.cell rfl⟩
theorem iU {R:Rp} {w:World} {bz bs B:Nat} {W:World} {x:dG} {s:St} (h:Pn R w bz bs B W x s):
 CX R w (⟨x.h,x.b,x.e⟩,s) (.returned (bP x.h x.b x.e x.s)) (W.setCells bz 0 (dG.f x)):=by
 have hg:=aP bz (dG.f x) 0 W
 have hl:=h.lt
 have hb:=R.b0
 exact ⟨⟨x.s,rfl,h.ok,(h.st.next (fU hg hl.2.2.2.2.1)).mono (by omega)⟩,uV h.rd hg (by omega) (by omega),vR h.gr hg hl.2.2.2.1⟩
theorem lX {op ln:Int} (h:aM op) (hl:aM ln):mO (hd op ln) .nil .nil:=⟨h,hl,Nat.zero_le _,Nat.zero_le _,Nat.zero_le _,⟨kE,kE,Nat.zero_le _,Nat.zero_le _⟩,Nat.zero_le _,Nat.zero_le _⟩
theorem lW (B:Nat) (W:World) (op ln:Int):bJ B W (dG.I ⟨hd op ln,.nil,.nil,zS⟩):=fun _ _=>⟨trivial,trivial,trivial,trivial⟩
theorem RY (R:Rp) (ln:Int) (hln:aM ln) (s:St) (w:World) (hI:bn w R s):
 Calls Tryz.prog 133 #[.pointer (some ⟨R.br,0,none⟩),bP (hd 0 ln) .nil .nil zS] w (CX R w (zB R.ts (hd 0 ln) s)):=by
 have HI:=Lib.hid hI
 have HL:=Lib.hid hln
 obtain ⟨q,hq⟩: ∃q,aJ R.ts s=q:=⟨_,rfl⟩
 have eH:Hid (q.1.size≤maxLen):=Lib.hid (by rw [← hq]; exact fZ hI.ts)
 have gI:Hid (∀w,bn w R s→Calls Tryz.prog 83 #[.pointer (some ⟨R.br,0,none⟩)] w (qP R w q)):=Lib.hid (fun w h=>by rw [← hq]; exact gQ R s w h)
 clear hI hln
 unfold zB
 rw [hq]
 clear hq
 obtain ⟨nm,s1⟩:=q
 dsimp only
 cases h2:at' [91] s1.toks
 ·have hI2:pG R.ts {hd 0 ln with op:=1,nm:=nm} s1=({hd 0 ln with op:=1,nm:=nm},s1):=by unfold pG; rw [if_neg (by rw [h2]; decide)]
  rw [hI2]
  unfold Dz
  have HX:Hid (∀w,bn w R (aR R.ts [61] s1)→Calls Tryz.prog 53 #[.pointer (some ⟨R.br,0,none⟩),.int .i64 1] w (mM R w (dQ R.ts (aR R.ts [61] s1)))):=Lib.hid (fun w h=>qy R _ w h)
  clear hI2
  generalize dQ R.ts (aR R.ts [61] s1)=res at *
  obtain ⟨x,s2⟩:=res
  unfold bP
  go_enter Tryz.func133,Tryz.ntmps133
  go_upto_region 1 with fail
  generalize hW:World.alloc (World.alloc w _) _=W0
  have HP:Hid (Pn R w (w.heap.size + 1) w.heap.size (w.heap.size + 2) W0 ⟨hd 0 ln,.nil,.nil,zS⟩ s):=Lib.hid (by
   rw [← hW]
   exact ⟨qm (qm HI.out _) _,dP (aH (ah _ _)) _,by have:=HI.out.lt; omega,by simp,(heap_alloc_old _ _ (by simp)).trans (heap_alloc_new _ _),by
    have:=heap_alloc_new (w.alloc (.cells (dG.f ⟨hd 0 ln,.nil,.nil,zS⟩).toArray 89)) (.cells gG 89)
    rw [show (w.alloc (.cells (dG.f ⟨hd 0 ln,.nil,.nil,zS⟩).toArray 89)).heap.size=w.heap.size + 1 by simp] at this
    exact this,lX kE HL.out,lW _ _ _ _⟩)
  clear hW
  have c0:=HP.out.cell (j:=0) rfl
  have f0:=HP.out.free 0
  go_upto_region 2 with fail
  generalize hW:World.setCell W0 _ _=W1
  have HQ:Hid (Pn R w (w.heap.size + 1) w.heap.size (w.heap.size + 2) W1 ⟨hd 1 ln,.nil,.nil,zS⟩ s):=Lib.hid (by rw [← hW]; exact HP.out.op 1 (by unfold aM; decide))
  clear hW c0 f0 HP
  have HP:=HQ
  clear HQ
  go_wp2_with fail
  refine (gI.out _ HP.out.rd).mono ?_
  rintro e wn ⟨rfl,h2,h3⟩
  have HQ:=Lib.hid (HP.out.then h2 h3)
  have c2:=HQ.out.cell (j:=2) rfl
  have f2:=HQ.out.free 2
  clear h2 h3 HP
  go_upto_region 3 with fail
  generalize hW:World.setCell wn _ _=WN
  have HP:Hid (Pn R w (w.heap.size + 1) w.heap.size (w.heap.size + 2) WN ⟨{hd 1 ln with nm:=nm},.nil,.nil,zS⟩ s1):=Lib.hid (by rw [← hW]; exact HQ.out.nm _ eH.out)
  clear hW c2 f2 HQ
  go_wp2_with fail
  refine (lC R s1 _ ⟨#[91]⟩ rfl h2 HP.out.rd).mono ?_
  rintro e w6 ⟨rfl,hb6⟩
  have HQ:=Lib.hid (HP.out.below hb6)
  clear hb6 HP
  have HP:=HQ
  clear HQ
  go_wp2_with fail
  refine (fC R _ _ ⟨#[61]⟩ rfl HP.out.rd).mono ?_
  rintro e w9 ⟨rfl,h2,h3⟩
  have HQ:=Lib.hid (HP.out.then h2 h3)
  clear h2 h3 HP
  have HP:=HQ
  clear HQ
  go_wp2_with fail
  refine (HX.out _ HP.out.rd).mono ?_
  rintro e w3 ⟨v,rfl,hv,h2,h3⟩
  have HQ:=Lib.hid (HP.out.then h2 h3)
  have HV:=Lib.hid (hv.mono HP.out.sz)
  clear h2 h3 hv HP
  obtain ⟨cB,bF,rfl,mX,kI⟩:=HV.out
  have HE:=Lib.hid (And.intro mX kI)
  clear mX kI HV
  have c5:=HQ.out.cell (j:=5) rfl
  have c6:=HQ.out.cell (j:=6) rfl
  have c7:=HQ.out.cell (j:=7) rfl
  have c8:=HQ.out.cell (j:=8) rfl
  have f5:=HQ.out.free 5
  have f6:=HQ.out.free 6
  have f7:=HQ.out.free 7
  have f8:=HQ.out.free 8
  unfold exV
  go_upto_region 9 with fail
  generalize hW:World.setCell (World.setCell (World.setCell (World.setCell w3 _ _) _ _) _ _) _ _=WX
  have HP:Hid (Pn R w (w.heap.size + 1) w.heap.size (w.heap.size + 2) WX ⟨bf.ex {hd 1 ln with nm:=nm} x,.nil,.nil,{zS with cB:=cB,bF:=bF}⟩ s2):=Lib.hid (by rw [← hW]; exact HQ.out.ex x cB bF HE.out.1 HE.out.2)
  clear hW c5 c6 c7 c8 f5 f6 f7 f8 HQ HE
  go_wp2_with fail
  refine (fC R _ _ ⟨#[59]⟩ rfl HP.out.rd).mono ?_
  rintro e w9 ⟨rfl,h2,h3⟩
  have HQ:=Lib.hid (HP.out.then h2 h3)
  clear h2 h3 HP
  have HP:=HQ
  clear HQ
  obtain ⟨⟨y0,y1,y2,y3,y4,y5,y6,y7,y8,y9,dZ⟩,fz⟩:=kC HP.out.z
  have z0:=fz 0
  have z1:=fz 1
  have z2:=fz 2
  have z3:=fz 3
  have z4:=fz 4
  have z5:=fz 5
  have z6:=fz 6
  have z7:=fz 7
  have z8:=fz 8
  have z9:=fz 9
  have jD:=fz 10
  obtain ⟨d0,d1,d2,d3,d4,d5,d6,d7,d8,d9,iJ⟩:=iE HP.out
  clear fz
  go_wp2_with fail
  exact bodyPost_ret (v:=bP _ _ _ _) (by simp [results,Tryz.results133,go_sem,bP,y0,y1,y2,y3,y4,y5,y6,y7,y8,y9,dZ]) rfl (iU HP.out)
 ·have iQ:=Lib.hid (lN h2)
  have HX0:Hid (∀w,bn w R s1.aD→Calls Tryz.prog 53 #[.pointer (some ⟨R.br,0,none⟩),.int .i64 1] w (mM R w (dQ R.ts s1.aD))):=Lib.hid (fun w h=>qy R _ w h)
  have hI2:pG R.ts {hd 0 ln with op:=1,nm:=nm} s1=({hd 1 ln with nm:=nm,idx:= .cons (dQ R.ts s1.aD).1.op (dQ R.ts s1.aD).1.n (dQ R.ts s1.aD).1.nm (dQ R.ts s1.aD).1.kids .nil},aR R.ts [93] (dQ R.ts s1.aD).2):=by unfold pG; rw [if_pos h2]; rfl
  rw [hI2]
  clear hI2
  generalize dQ R.ts s1.aD=RZ at *
  obtain ⟨x0,s2⟩:=RZ
  unfold Dz
  have HX:Hid (∀w,bn w R (aR R.ts [61] (aR R.ts [93] s2))→Calls Tryz.prog 53 #[.pointer (some ⟨R.br,0,none⟩),.int .i64 1] w (mM R w (dQ R.ts (aR R.ts [61] (aR R.ts [93] s2))))):=Lib.hid (fun w h=>qy R _ w h)
  generalize dQ R.ts (aR R.ts [61] (aR R.ts [93] s2))=res at *
  obtain ⟨x,s3⟩:=res
  unfold bP
  go_enter Tryz.func133,Tryz.ntmps133
  go_upto_region 1 with fail
  generalize hW:World.alloc (World.alloc w _) _=W0
  have HP:Hid (Pn R w (w.heap.size + 1) w.heap.size (w.heap.size + 2) W0 ⟨hd 0 ln,.nil,.nil,zS⟩ s):=Lib.hid (by
   rw [← hW]
   exact ⟨qm (qm HI.out _) _,dP (aH (ah _ _)) _,by have:=HI.out.lt; omega,by simp,(heap_alloc_old _ _ (by simp)).trans (heap_alloc_new _ _),by
    have:=heap_alloc_new (w.alloc (.cells (dG.f ⟨hd 0 ln,.nil,.nil,zS⟩).toArray 89)) (.cells gG 89)
    rw [show (w.alloc (.cells (dG.f ⟨hd 0 ln,.nil,.nil,zS⟩).toArray 89)).heap.size=w.heap.size + 1 by simp] at this
    exact this,lX kE HL.out,lW _ _ _ _⟩)
  clear hW
  have c0:=HP.out.cell (j:=0) rfl
  have f0:=HP.out.free 0
  go_upto_region 2 with fail
  generalize hW:World.setCell W0 _ _=W1
  have HQ:Hid (Pn R w (w.heap.size + 1) w.heap.size (w.heap.size + 2) W1 ⟨hd 1 ln,.nil,.nil,zS⟩ s):=Lib.hid (by rw [← hW]; exact HP.out.op 1 (by unfold aM; decide))
  clear hW c0 f0 HP
  have HP:=HQ
  clear HQ
  go_wp2_with fail
  refine (gI.out _ HP.out.rd).mono ?_
  rintro e wn ⟨rfl,h2,h3⟩
  have HQ:=Lib.hid (HP.out.then h2 h3)
  have c2:=HQ.out.cell (j:=2) rfl
  have f2:=HQ.out.free 2
  clear h2 h3 HP
  go_upto_region 3 with fail
  generalize hW:World.setCell wn _ _=WN
  have HP:Hid (Pn R w (w.heap.size + 1) w.heap.size (w.heap.size + 2) WN ⟨{hd 1 ln with nm:=nm},.nil,.nil,zS⟩ s1):=Lib.hid (by rw [← hW]; exact HQ.out.nm _ eH.out)
  clear hW c2 f2 HQ
  go_wp2_with fail
  refine (lC R s1 _ ⟨#[91]⟩ rfl h2 HP.out.rd).mono ?_
  rintro e w6 ⟨rfl,hb6⟩
  have HQ:=Lib.hid (HP.out.below hb6)
  clear hb6 HP
  have HP:=HQ
  clear HQ
  obtain ⟨pos,bad,⟨hp,hp2,hl,hlt,hbr⟩,gU,⟨bL,bK⟩,c0,c1,c2,f1,f2⟩:=HP.out.rd.open
  have HA:=Lib.hid (HP.out.aD c1 iQ.out)
  go_upto_region 5 with fail
  generalize hW:World.setCell _ _ _=WA
  rw [hW] at HA
  clear hW c0 c1 c2 f1 f2 gU hp hp2 hl hlt hbr bL bK HP
  have HP:=HA
  clear HA
  go_wp2_with fail
  refine (HX0.out _ HP.out.rd).mono ?_
  rintro e wi ⟨v,rfl,hv,h3,h4⟩
  have HQ:=Lib.hid (HP.out.then h3 h4)
  have HV:=Lib.hid (hv.mono HP.out.sz)
  clear h3 h4 hv HP
  obtain ⟨fH,dW,rfl,mX,kI⟩:=HV.out
  have HE:=Lib.hid (And.intro mX kI)
  clear mX kI HV
  have c4:=HQ.out.cell (j:=4) rfl
  have f4:=HQ.out.free 4
  have hlt3:w.heap.size < wi.heap.size:=by have:=HQ.out.sz; omega
  unfold exV
  go_upto_region 6 with fail
  generalize hW:World.alloc (World.setCell wi _ _) _=WX
  have HP:Hid (Pn R w (w.heap.size + 1) w.heap.size (w.heap.size + 2) WX ⟨{hd 1 ln with nm:=nm,idx:= .cons x0.op x0.n x0.nm x0.kids .nil},.nil,.nil,{zS with fH:=some ⟨wi.heap.size,0,none⟩,dW:=1}⟩ s2):=Lib.hid (by rw [← hW]; exact HQ.out.Sw x0 fH dW _ HE.out)
  clear hW c4 f4 hlt3 HQ HE
  go_wp2_with fail
  refine (fC R _ _ ⟨#[93]⟩ rfl HP.out.rd).mono ?_
  rintro e w9 ⟨rfl,h2,h3⟩
  have HQ:=Lib.hid (HP.out.then h2 h3)
  clear h2 h3 HP
  have HP:=HQ
  clear HQ
  go_wp2_with fail
  refine (fC R _ _ ⟨#[61]⟩ rfl HP.out.rd).mono ?_
  rintro e w9 ⟨rfl,h2,h3⟩
  have HQ:=Lib.hid (HP.out.then h2 h3)
  clear h2 h3 HP
  have HP:=HQ
  clear HQ
  go_wp2_with fail
  refine (HX.out _ HP.out.rd).mono ?_
  rintro e w3 ⟨v,rfl,hv,h2,h3⟩
  have HQ:=Lib.hid (HP.out.then h2 h3)
  have HV:=Lib.hid (hv.mono HP.out.sz)
  clear h2 h3 hv HP
  obtain ⟨cB,bF,rfl,mX,kI⟩:=HV.out
  have HE:=Lib.hid (And.intro mX kI)
  clear mX kI HV
  have c5:=HQ.out.cell (j:=5) rfl
  have c6:=HQ.out.cell (j:=6) rfl
  have c7:=HQ.out.cell (j:=7) rfl
  have c8:=HQ.out.cell (j:=8) rfl
  have f5:=HQ.out.free 5
  have f6:=HQ.out.free 6
  have f7:=HQ.out.free 7
  have f8:=HQ.out.free 8
  unfold exV
  go_upto_region 9 with fail
  generalize hW:World.setCell (World.setCell (World.setCell (World.setCell w3 _ _) _ _) _ _) _ _=WX
  have HP:Hid (Pn R w (w.heap.size + 1) w.heap.size (w.heap.size + 2) WX ⟨bf.ex {hd 1 ln with nm:=nm,idx:= .cons x0.op x0.n x0.nm x0.kids .nil} x,.nil,.nil,{zS with fH:=some ⟨wi.heap.size,0,none⟩,dW:=1,cB:=cB,bF:=bF}⟩ s3):=Lib.hid (by rw [← hW]; exact HQ.out.ex x cB bF HE.out.1 HE.out.2)
  clear hW c5 c6 c7 c8 f5 f6 f7 f8 HQ HE
  go_wp2_with fail
  refine (fC R _ _ ⟨#[59]⟩ rfl HP.out.rd).mono ?_
  rintro e w9 ⟨rfl,h2,h3⟩
  have HQ:=Lib.hid (HP.out.then h2 h3)
  clear h2 h3 HP
  have HP:=HQ
  clear HQ
  obtain ⟨⟨y0,y1,y2,y3,y4,y5,y6,y7,y8,y9,dZ⟩,fz⟩:=kC HP.out.z
  have z0:=fz 0
  have z1:=fz 1
  have z2:=fz 2
  have z3:=fz 3
  have z4:=fz 4
  have z5:=fz 5
  have z6:=fz 6
  have z7:=fz 7
  have z8:=fz 8
  have z9:=fz 9
  have jD:=fz 10
  obtain ⟨d0,d1,d2,d3,d4,d5,d6,d7,d8,d9,iJ⟩:=iE HP.out
  clear fz
  go_wp2_with fail
  exact bodyPost_ret (v:=bP _ _ _ _) (by simp [results,Tryz.results133,go_sem,bP,y0,y1,y2,y3,y4,y5,y6,y7,y8,y9,dZ]) rfl (iU HP.out)
end Go.Proofs.YtehnipchbmjlhaaGreatDoor
end
section
namespace Go.Proofs.YtehnipchbmjlhaaGreatDoor
open Go.RowKit
open Md Pz
def EG (R:Rp) (f:Nat):Prop:= ∀s w,jK false (aR R.ts [123] s) f→bn w R s→Calls Tryz.prog 87 #[.pointer (some ⟨R.br,0,none⟩)] w (sQ R w (mh R.ts f s))
theorem qH {ts:ak} {s s':St} {f:Nat} (h:jK true s (f + 1)) (hl:s'.len < s.len):jK false (aR ts [123] s') f:=by
 unfold jK at *
 have:=gT (ts:=ts) [123] s'
 simp at *; omega
theorem QH {R:Rp} {w W w':World} {bz:Nat} {q:Sx × St} {sl:Sl} (hg:w.grownBy W (some R.br)) (hl:R.br < w.heap.size∧w.heap.size≤bz∧bz < W.heap.size)
 (hok:mO q.1.h q.1.b q.1.e) (hst:bJ W.heap.size w' (dG.I ⟨q.1.h,q.1.b,q.1.e,sl⟩)) (hr:bn w' R q.2) (h2:W.grownBy w' (some R.br)):
 CX R w q (.returned (bP q.1.h q.1.b q.1.e sl)) (w'.setCells bz 0 (dG.f ⟨q.1.h,q.1.b,q.1.e,sl⟩)):=by
 have hs:=aP bz (dG.f ⟨q.1.h,q.1.b,q.1.e,sl⟩) 0 w'
 have hb:=R.b0
 exact ⟨⟨sl,rfl,hok,(hst.next (fU hs hl.2.2)).mono (by omega)⟩,uV hr hs (by omega) (by omega),vR (bD hg h2) hs hl.2.1⟩
theorem nX {w:World} {R:Rp} {s:St} (h:bn w R s):kW (aJ R.ts s.aD).2.toks:=by
 have ha: ∀t ∈ s.aD.toks,t ∈ s.toks:=by
  intro t ht
  cases s with
  | go r=>exact List.mem_of_mem_tail ht
  | bad n=>exact ht
 intro t ht
 refine h.ts t (ha t ?_)
 unfold aJ at ht
 split at ht
 ·cases hs:s.aD with
  | go r=>rw [hs] at ht; exact List.mem_of_mem_tail ht
  | bad n=>rw [hs] at ht; exact ht
 ·cases hs:s.aD with
  | go r=>rw [hs] at ht; cases ht
  | bad n=>rw [hs] at ht; exact ht
theorem N9 (r:ak):dU r=0∨(2≤dU r∧dU r≤15):=by
 unfold dU
 split
 ·unfold eG
  repeat' split
  all_goals omega
 ·exact .inl rfl
theorem Oq {w:World} {R:Rp} {s:St} (h:bn w R s):aM ((aK s.toks:Nat):Int):=by
 unfold aM
 cases hs:s.toks with
 | nil=>simp [aK]
 | cons t r=>
   have:=(h.DX t (by rw [hs]; simp)).1
   simp only [aK]; omega
theorem Ea (R:Rp) (f:Nat) (ih:EG R f) (s:St) (w:World) (hen:jK true s (f + 1)) (hI:bn w R s):
 Calls Tryz.prog 118 #[.pointer (some ⟨R.br,0,none⟩)] w (CX R w (BA R.ts f s)):=by
 have HI:=Lib.hid hI
 have HF:=Lib.hid hen
 have fD:=Lib.hid ih
 obtain ⟨ln,hln⟩: ∃ln:Int,((aK s.toks:Nat):Int)=ln:=⟨_,rfl⟩
 have HL:Hid (aM ln):=Lib.hid (by rw [← hln]; exact Oq hI)
 have iY:Hid (∀w,bn w R s→Calls Tryz.prog 82 #[.pointer (some ⟨R.br,0,none⟩)] w fun e w'=>e= .returned (.int .i64 ln)∧Below w.heap.size w w'):=Lib.hid (fun w h=>by rw [← hln]; exact AL R s w h)
 have HW:Hid (∀w,bn w R s→Calls Tryz.prog 132 #[.pointer (some ⟨R.br,0,none⟩)] w fun e w'=>e= .returned (.int .i64 (dU s.toks))∧Below w.heap.size w w'):=Lib.hid (fun w h=>Qr R s w h)
 clear hI hen ih
 unfold BA
 rw [hln]
 clear hln
 by_cases h0:dU s.toks=0
 ·have al8:Hid (∀w,bn w R s→Calls Tryz.prog 133 #[.pointer (some ⟨R.br,0,none⟩),bP (hd 0 ln) .nil .nil zS] w (CX R w (zB R.ts (hd 0 ln) s))):=Lib.hid (fun w h=>RY R ln HL.out s w h)
  rw [h0] at HW ⊢
  rw [if_pos (by decide)]
  have cO:Hid (aM 0):=Lib.hid kE
  clear h0 fD HF
  generalize zB R.ts (hd 0 ln) s=q at *
  go_enter Tryz.func118,Tryz.ntmps118
  go_upto_region 1 with fail
  generalize hW:World.alloc w _=W0
  have HB0:Hid (Below w.heap.size w W0):=Lib.hid (by rw [← hW]; exact ah _ _)
  have HZ0:Hid (W0.heap[w.heap.size]? =some (.cells gG 89 (0,0))):=Lib.hid (by rw [← hW]; exact heap_alloc_new _ _)
  clear hW
  go_wp2_with fail
  refine (HW.out _ (HI.out.below HB0.out)).mono ?_
  rintro e w1 ⟨rfl,hb⟩
  have HB1:=Lib.hid (HB0.out.trans (hb.mono HB0.out.size))
  have HZ1:=Lib.hid ((hb.block _ (Array.getElem?_eq_some_iff.1 HZ0.out).1).trans HZ0.out)
  clear hb HB0 HZ0
  go_wp2_with fail
  refine (iY.out _ (HI.out.below HB1.out)).mono ?_
  rintro e w2 ⟨rfl,hb⟩
  have HB2:=Lib.hid (HB1.out.trans (hb.mono HB1.out.size))
  have HZ2:=Lib.hid ((hb.block _ (Array.getElem?_eq_some_iff.1 HZ1.out).1).trans HZ1.out)
  clear hb HB1 HZ1
  go_upto_region 2 with fail
  obtain ⟨g,hg⟩: ∃g,w2.heap.size=g:=⟨_,rfl⟩
  generalize hW:World.alloc w2 _=W3
  have HP:Hid (Pn R w w.heap.size g (g + 1) W3 ⟨hd 0 ln,.nil,.nil,zS⟩ s):=Lib.hid (by
   have hl:=HI.out.lt
   have hzl:=(Array.getElem?_eq_some_iff.1 HZ2.out).1
   rw [← hW,← hg]
   exact ⟨(HI.out.below HB2.out).below (ah _ _),dP (aH HB2.out) _,by omega,by simp,heap_alloc_new _ _,(heap_alloc_old _ _ hzl).trans HZ2.out,lX cO.out HL.out,lW _ _ _ _⟩)
  rw [hg]
  clear hW hg HB2 HZ2
  obtain ⟨d0,d1,d2,d3,d4,d5,d6,d7,d8,d9,iJ⟩:=iE HP.out
  go_wp2_with fail
  refine (al8.out _ HP.out.rd).mono ?_
  rintro e w4 ⟨⟨sl,rfl,hok,hst⟩,h2,h3⟩
  have HQ:=Lib.hid (And.intro hok (And.intro hst (And.intro h2 h3)))
  have HZ:=Lib.hid ((h3.block _ (Array.getElem?_eq_some_iff.1 HP.out.z).1 (by have:=HP.out.lt; simp; omega)).trans HP.out.z)
  clear hok hst h2 h3 d0 d1 d2 d3 d4 d5 d6 d7 d8 d9 iJ
  obtain ⟨⟨y0,y1,y2,y3,y4,y5,y6,y7,y8,y9,dZ⟩,fz⟩:=kC HZ.out
  have z0:=fz 0
  have z1:=fz 1
  have z2:=fz 2
  have z3:=fz 3
  have z4:=fz 4
  have z5:=fz 5
  have z6:=fz 6
  have z7:=fz 7
  have z8:=fz 8
  have z9:=fz 9
  have jD:=fz 10
  clear fz
  unfold bP
  go_wp2_with fail
  exact bodyPost_ret (v:=bP _ _ _ _) (by simp [results,Tryz.results118,go_sem,bP,y0,y1,y2,y3,y4,y5,y6,y7,y8,y9,dZ]) rfl (QH HP.out.gr ⟨HP.out.lt.1,Nat.le_refl _,by have:=HP.out.lt; have:=HP.out.sz; omega⟩ HQ.out.1 HQ.out.2.1 HQ.out.2.2.1 HQ.out.2.2.2)
 ·have hr:=N9 s.toks
  have iQ:=Lib.hid (Lr (show (dU s.toks == 0)=false by rw [beq_eq_false_iff_ne]; exact h0))
  have aX:=Lib.hid (uj iQ.out)
  have hk:dU s.toks=2∨dU s.toks=3∨(dU s.toks=7∨dU s.toks=8)∨(dU s.toks=4∨dU s.toks=5∨dU s.toks=6)∨dU s.toks=14∨dU s.toks=15∨(dU s.toks=9∨dU s.toks=10∨dU s.toks=11∨dU s.toks=12∨dU s.toks=13):=by omega
  clear h0 hr
  rcases hk with h | h | h | h | h | h | h
  ·rw [h] at HW ⊢
   rw [if_neg (by decide),if_pos (by decide)]
   have cO:Hid (aM 2):=Lib.hid (by unfold aM; decide)
   have HX:Hid (∀w,bn w R s.aD→Calls Tryz.prog 53 #[.pointer (some ⟨R.br,0,none⟩),.int .i64 1] w (mM R w (dQ R.ts s.aD))):=Lib.hid (fun w h=>qy R _ w h)
   have eP:Hid ((dQ R.ts s.aD).2.len≤s.aD.len):=Lib.hid (nH _)
   generalize dQ R.ts s.aD=res at *
   obtain ⟨x,s1⟩:=res
   have rG:Hid (∀w,bn w R s1→Calls Tryz.prog 87 #[.pointer (some ⟨R.br,0,none⟩)] w (sQ R w (mh R.ts f s1))):=Lib.hid (fun w h=>fD.out s1 w (qH HF.out (by have h1:s1.len≤s.aD.len:=eP.out; have:=aX.out; omega)) h)
   have pR:Hid ((mh R.ts f s1).2.len≤s1.len):=Lib.hid (Pj f s1)
   dsimp only
   generalize mh R.ts f s1=oN at *
   obtain ⟨b,s2⟩:=oN
   unfold Ht
   dsimp only
   cases he:at' [101,108,115,101] s2.toks
   ·rw [if_neg (by decide)]
    clear h fD HF eP aX pR
    go_enter Tryz.func118,Tryz.ntmps118
    go_upto_region 1 with fail
    generalize hW:World.alloc w _=W0
    have HB0:Hid (Below w.heap.size w W0):=Lib.hid (by rw [← hW]; exact ah _ _)
    have HZ0:Hid (W0.heap[w.heap.size]? =some (.cells gG 89 (0,0))):=Lib.hid (by rw [← hW]; exact heap_alloc_new _ _)
    clear hW
    go_wp2_with fail
    refine (HW.out _ (HI.out.below HB0.out)).mono ?_
    rintro e w1 ⟨rfl,hb⟩
    have HB1:=Lib.hid (HB0.out.trans (hb.mono HB0.out.size))
    have HZ1:=Lib.hid ((hb.block _ (Array.getElem?_eq_some_iff.1 HZ0.out).1).trans HZ0.out)
    clear hb HB0 HZ0
    go_wp2_with fail
    refine (iY.out _ (HI.out.below HB1.out)).mono ?_
    rintro e w2 ⟨rfl,hb⟩
    have HB2:=Lib.hid (HB1.out.trans (hb.mono HB1.out.size))
    have HZ2:=Lib.hid ((hb.block _ (Array.getElem?_eq_some_iff.1 HZ1.out).1).trans HZ1.out)
    clear hb HB1 HZ1
    go_upto_region 2 with fail
    obtain ⟨g,hg⟩: ∃g,w2.heap.size=g:=⟨_,rfl⟩
    generalize hW:World.alloc w2 _=W3
    have HP:Hid (Pn R w w.heap.size g (g + 1) W3 ⟨hd 2 ln,.nil,.nil,zS⟩ s):=Lib.hid (by
     have hl:=HI.out.lt
     have hzl:=(Array.getElem?_eq_some_iff.1 HZ2.out).1
     rw [← hW,← hg]
     exact ⟨(HI.out.below HB2.out).below (ah _ _),dP (aH HB2.out) _,by omega,by simp,heap_alloc_new _ _,(heap_alloc_old _ _ hzl).trans HZ2.out,lX cO.out HL.out,lW _ _ _ _⟩)
    rw [hg]
    clear hW hg HB2 HZ2
    have e0:World.cell? _ ⟨g,0,none⟩=some (.int .i64 2):=HP.out.cell (j:=0) rfl
    obtain ⟨pos,bad,⟨hp,hp2,hl,hlt,hbr⟩,gU,⟨bL,bK⟩,c0,c1,c2,f1,f2⟩:=HP.out.rd.open
    have HA:=Lib.hid (HP.out.aD c1 iQ.out)
    go_upto_region 5 with fail
    generalize hW:World.setCell _ _ _=WA
    rw [hW] at HA
    clear hW c0 c1 c2 f1 f2 gU hp hp2 hl hlt hbr bL bK HP
    have HP:=HA
    clear HA
    clear e0
    have e0:World.cell? _ ⟨g,0,none⟩=some (.int .i64 2):=HP.out.cell (j:=0) rfl
    go_wp2_with fail
    refine (HX.out _ HP.out.rd).mono ?_
    rintro e w3 ⟨v,rfl,hv,h2,h3⟩
    have HQ:=Lib.hid (HP.out.then h2 h3)
    have HV:=Lib.hid (hv.mono HP.out.sz)
    clear h2 h3 hv HP
    obtain ⟨cB,bF,rfl,mX,kI⟩:=HV.out
    have HE:=Lib.hid (And.intro mX kI)
    clear mX kI HV
    have c5:=HQ.out.cell (j:=5) rfl
    have c6:=HQ.out.cell (j:=6) rfl
    have c7:=HQ.out.cell (j:=7) rfl
    have c8:=HQ.out.cell (j:=8) rfl
    have f5:=HQ.out.free 5
    have f6:=HQ.out.free 6
    have f7:=HQ.out.free 7
    have f8:=HQ.out.free 8
    unfold exV
    go_upto_region 12 with fail
    generalize hW:World.setCell (World.setCell (World.setCell (World.setCell w3 _ _) _ _) _ _) _ _=WX
    have HP:Hid (Pn R w w.heap.size g (g + 1) WX ⟨bf.ex (hd 2 ln) x,.nil,.nil,{zS with cB:=cB,bF:=bF}⟩ s1):=Lib.hid (by rw [← hW]; exact HQ.out.ex x cB bF HE.out.1 HE.out.2)
    clear hW c5 c6 c7 c8 f5 f6 f7 f8 HQ HE
    clear e0
    have e0:World.cell? _ ⟨g,0,none⟩=some (.int .i64 2):=HP.out.cell (j:=0) rfl
    go_wp2_with fail
    refine (rG.out _ HP.out.rd).mono ?_
    rintro e wb ⟨⟨bC,aV,rfl,hlb,kM⟩,h2,h3⟩
    have HQ:=Lib.hid (HP.out.then h2 h3)
    have HE:=Lib.hid (And.intro hlb (kM.mono HP.out.sz))
    clear hlb kM h2 h3 HP
    have c9:=HQ.out.cell (j:=9) rfl
    have f9:=HQ.out.free 9
    go_upto_region 21 with fail
    generalize hW:World.setCell wb _ _=WB
    have HP:Hid (Pn R w w.heap.size g (g + 1) WB ⟨bf.ex (hd 2 ln) x,b,.nil,{zS with cB:=cB,bF:=bF,bC:=bC,aV:=aV}⟩ s2):=Lib.hid (by rw [← hW]; exact HQ.out.body _ bC aV (Nat.le_trans HE.out.1 (by unfold maxLen; decide)) HE.out.2)
    clear hW c9 f9 HQ HE
    clear e0
    have e0:World.cell? _ ⟨g,0,none⟩=some (.int .i64 2):=HP.out.cell (j:=0) rfl
    go_wp2_with fail
    refine (lC R s2 _ ⟨#[101,108,115,101]⟩ rfl he HP.out.rd).mono ?_
    rintro e w6 ⟨rfl,hb6⟩
    have HQ:=Lib.hid (HP.out.below hb6)
    clear hb6 HP e0
    have HP:=HQ
    clear HQ
    obtain ⟨⟨y0,y1,y2,y3,y4,y5,y6,y7,y8,y9,dZ⟩,fz⟩:=kC HP.out.z
    have z0:=fz 0
    have z1:=fz 1
    have z2:=fz 2
    have z3:=fz 3
    have z4:=fz 4
    have z5:=fz 5
    have z6:=fz 6
    have z7:=fz 7
    have z8:=fz 8
    have z9:=fz 9
    have jD:=fz 10
    obtain ⟨d0,d1,d2,d3,d4,d5,d6,d7,d8,d9,iJ⟩:=iE HP.out
    clear fz
    go_wp2_with fail
    exact bodyPost_ret (v:=bP _ _ _ _) (by simp [results,Tryz.results118,go_sem,bP,y0,y1,y2,y3,y4,y5,y6,y7,y8,y9,dZ]) rfl (iU HP.out)
   ·rw [if_pos rfl]
    have HBE:Hid (∀w,bn w R s2.aD→Calls Tryz.prog 87 #[.pointer (some ⟨R.br,0,none⟩)] w (sQ R w (mh R.ts f s2.aD))):=Lib.hid (fun w h=>fD.out s2.aD w (qH HF.out (by have h1:s1.len≤s.aD.len:=eP.out; have h2:s2.len≤s1.len:=pR.out; have h3:=iP s2; have:=aX.out; omega)) h)
    have ap6:=Lib.hid (lN he)
    clear h fD HF eP aX pR
    generalize mh R.ts f s2.aD=ao3 at *
    obtain ⟨el,s3⟩:=ao3
    go_enter Tryz.func118,Tryz.ntmps118
    go_upto_region 1 with fail
    generalize hW:World.alloc w _=W0
    have HB0:Hid (Below w.heap.size w W0):=Lib.hid (by rw [← hW]; exact ah _ _)
    have HZ0:Hid (W0.heap[w.heap.size]? =some (.cells gG 89 (0,0))):=Lib.hid (by rw [← hW]; exact heap_alloc_new _ _)
    clear hW
    go_wp2_with fail
    refine (HW.out _ (HI.out.below HB0.out)).mono ?_
    rintro e w1 ⟨rfl,hb⟩
    have HB1:=Lib.hid (HB0.out.trans (hb.mono HB0.out.size))
    have HZ1:=Lib.hid ((hb.block _ (Array.getElem?_eq_some_iff.1 HZ0.out).1).trans HZ0.out)
    clear hb HB0 HZ0
    go_wp2_with fail
    refine (iY.out _ (HI.out.below HB1.out)).mono ?_
    rintro e w2 ⟨rfl,hb⟩
    have HB2:=Lib.hid (HB1.out.trans (hb.mono HB1.out.size))
    have HZ2:=Lib.hid ((hb.block _ (Array.getElem?_eq_some_iff.1 HZ1.out).1).trans HZ1.out)
    clear hb HB1 HZ1
    go_upto_region 2 with fail
    obtain ⟨g,hg⟩: ∃g,w2.heap.size=g:=⟨_,rfl⟩
    generalize hW:World.alloc w2 _=W3
    have HP:Hid (Pn R w w.heap.size g (g + 1) W3 ⟨hd 2 ln,.nil,.nil,zS⟩ s):=Lib.hid (by
     have hl:=HI.out.lt
     have hzl:=(Array.getElem?_eq_some_iff.1 HZ2.out).1
     rw [← hW,← hg]
     exact ⟨(HI.out.below HB2.out).below (ah _ _),dP (aH HB2.out) _,by omega,by simp,heap_alloc_new _ _,(heap_alloc_old _ _ hzl).trans HZ2.out,lX cO.out HL.out,lW _ _ _ _⟩)
    rw [hg]
    clear hW hg HB2 HZ2
    have e0:World.cell? _ ⟨g,0,none⟩=some (.int .i64 2):=HP.out.cell (j:=0) rfl
    obtain ⟨pos,bad,⟨hp,hp2,hl,hlt,hbr⟩,gU,⟨bL,bK⟩,c0,c1,c2,f1,f2⟩:=HP.out.rd.open
    have HA:=Lib.hid (HP.out.aD c1 iQ.out)
    go_upto_region 5 with fail
    generalize hW:World.setCell _ _ _=WA
    rw [hW] at HA
    clear hW c0 c1 c2 f1 f2 gU hp hp2 hl hlt hbr bL bK HP
    have HP:=HA
    clear HA
    clear e0
    have e0:World.cell? _ ⟨g,0,none⟩=some (.int .i64 2):=HP.out.cell (j:=0) rfl
    go_wp2_with fail
    refine (HX.out _ HP.out.rd).mono ?_
    rintro e w3 ⟨v,rfl,hv,h2,h3⟩
    have HQ:=Lib.hid (HP.out.then h2 h3)
    have HV:=Lib.hid (hv.mono HP.out.sz)
    clear h2 h3 hv HP
    obtain ⟨cB,bF,rfl,mX,kI⟩:=HV.out
    have HE:=Lib.hid (And.intro mX kI)
    clear mX kI HV
    have c5:=HQ.out.cell (j:=5) rfl
    have c6:=HQ.out.cell (j:=6) rfl
    have c7:=HQ.out.cell (j:=7) rfl
    have c8:=HQ.out.cell (j:=8) rfl
    have f5:=HQ.out.free 5
    have f6:=HQ.out.free 6
    have f7:=HQ.out.free 7
    have f8:=HQ.out.free 8
    unfold exV
    go_upto_region 12 with fail
    generalize hW:World.setCell (World.setCell (World.setCell (World.setCell w3 _ _) _ _) _ _) _ _=WX
    have HP:Hid (Pn R w w.heap.size g (g + 1) WX ⟨bf.ex (hd 2 ln) x,.nil,.nil,{zS with cB:=cB,bF:=bF}⟩ s1):=Lib.hid (by rw [← hW]; exact HQ.out.ex x cB bF HE.out.1 HE.out.2)
    clear hW c5 c6 c7 c8 f5 f6 f7 f8 HQ HE
    clear e0
    have e0:World.cell? _ ⟨g,0,none⟩=some (.int .i64 2):=HP.out.cell (j:=0) rfl
    go_wp2_with fail
    refine (rG.out _ HP.out.rd).mono ?_
    rintro e wb ⟨⟨bC,aV,rfl,hlb,kM⟩,h2,h3⟩
    have HQ:=Lib.hid (HP.out.then h2 h3)
    have HE:=Lib.hid (And.intro hlb (kM.mono HP.out.sz))
    clear hlb kM h2 h3 HP
    have c9:=HQ.out.cell (j:=9) rfl
    have f9:=HQ.out.free 9
    go_upto_region 21 with fail
    generalize hW:World.setCell wb _ _=WB
    have HP:Hid (Pn R w w.heap.size g (g + 1) WB ⟨bf.ex (hd 2 ln) x,b,.nil,{zS with cB:=cB,bF:=bF,bC:=bC,aV:=aV}⟩ s2):=Lib.hid (by rw [← hW]; exact HQ.out.body _ bC aV (Nat.le_trans HE.out.1 (by unfold maxLen; decide)) HE.out.2)
    clear hW c9 f9 HQ HE
    clear e0
    have e0:World.cell? _ ⟨g,0,none⟩=some (.int .i64 2):=HP.out.cell (j:=0) rfl
    go_wp2_with fail
    refine (lC R s2 _ ⟨#[101,108,115,101]⟩ rfl he HP.out.rd).mono ?_
    rintro e w6 ⟨rfl,hb6⟩
    have HQ:=Lib.hid (HP.out.below hb6)
    clear hb6 HP e0
    have HP:=HQ
    clear HQ
    obtain ⟨an0,Zx⟩: ∃a,a=bC:=⟨_,rfl⟩
    obtain ⟨ZO,Yt⟩: ∃a,a=aV:=⟨_,rfl⟩
    rw [← Zx,← Yt] at HP
    clear Zx Yt
    obtain ⟨pos,bad,⟨hp,hp2,hl,hlt,hbr⟩,gU,⟨bL,bK⟩,c0,c1,c2,f1,f2⟩:=HP.out.rd.open
    have HA:=Lib.hid (HP.out.aD c1 ap6.out)
    go_upto_region 23 with fail
    generalize hW:World.setCell _ _ _=WA
    rw [hW] at HA
    clear hW c0 c1 c2 f1 f2 gU hp hp2 hl hlt hbr bL bK HP
    have HP:=HA
    clear HA
    go_wp2_with fail
    refine (HBE.out _ HP.out.rd).mono ?_
    rintro e wb ⟨⟨bC,aV,rfl,hlb,kM⟩,h2,h3⟩
    have HQ:=Lib.hid (HP.out.then h2 h3)
    have HE:=Lib.hid (And.intro hlb (kM.mono HP.out.sz))
    clear hlb kM h2 h3 HP
    have c9:=HQ.out.cell (j:=10) rfl
    have f9:=HQ.out.free 10
    go_upto_region 24 with fail
    generalize hW:World.setCell wb _ _=WB
    have HP:Hid (Pn R w w.heap.size g (g + 1) WB ⟨bf.ex (hd 2 ln) x,b,el,{zS with cB:=cB,bF:=bF,bC:=an0,aV:=ZO,eZ:=bC,dL:=aV}⟩ s3):=Lib.hid (by rw [← hW]; exact HQ.out.els _ bC aV (Nat.le_trans HE.out.1 (by unfold maxLen; decide)) HE.out.2)
    clear hW c9 f9 HQ HE
    obtain ⟨⟨y0,y1,y2,y3,y4,y5,y6,y7,y8,y9,dZ⟩,fz⟩:=kC HP.out.z
    have z0:=fz 0
    have z1:=fz 1
    have z2:=fz 2
    have z3:=fz 3
    have z4:=fz 4
    have z5:=fz 5
    have z6:=fz 6
    have z7:=fz 7
    have z8:=fz 8
    have z9:=fz 9
    have jD:=fz 10
    obtain ⟨d0,d1,d2,d3,d4,d5,d6,d7,d8,d9,iJ⟩:=iE HP.out
    clear fz
    go_wp2_with fail
    exact bodyPost_ret (v:=bP _ _ _ _) (by simp [results,Tryz.results118,go_sem,bP,y0,y1,y2,y3,y4,y5,y6,y7,y8,y9,dZ]) rfl (iU HP.out)
  ·rw [h] at HW ⊢
   rw [if_neg (by decide),if_neg (by decide),if_pos (by decide)]
   have cO:Hid (aM 3):=Lib.hid (by unfold aM; decide)
   have HX:Hid (∀w,bn w R s.aD→Calls Tryz.prog 53 #[.pointer (some ⟨R.br,0,none⟩),.int .i64 1] w (mM R w (dQ R.ts s.aD))):=Lib.hid (fun w h=>qy R _ w h)
   have eP:Hid ((dQ R.ts s.aD).2.len≤s.aD.len):=Lib.hid (nH _)
   generalize dQ R.ts s.aD=res at *
   obtain ⟨x,s1⟩:=res
   have rG:Hid (∀w,bn w R s1→Calls Tryz.prog 87 #[.pointer (some ⟨R.br,0,none⟩)] w (sQ R w (mh R.ts f s1))):=Lib.hid (fun w h=>fD.out s1 w (qH HF.out (by have h1:s1.len≤s.aD.len:=eP.out; have:=aX.out; omega)) h)
   clear h fD HF eP aX
   dsimp only
   generalize mh R.ts f s1=oN at *
   obtain ⟨b,s2⟩:=oN
   go_enter Tryz.func118,Tryz.ntmps118
   go_upto_region 1 with fail
   generalize hW:World.alloc w _=W0
   have HB0:Hid (Below w.heap.size w W0):=Lib.hid (by rw [← hW]; exact ah _ _)
   have HZ0:Hid (W0.heap[w.heap.size]? =some (.cells gG 89 (0,0))):=Lib.hid (by rw [← hW]; exact heap_alloc_new _ _)
   clear hW
   go_wp2_with fail
   refine (HW.out _ (HI.out.below HB0.out)).mono ?_
   rintro e w1 ⟨rfl,hb⟩
   have HB1:=Lib.hid (HB0.out.trans (hb.mono HB0.out.size))
   have HZ1:=Lib.hid ((hb.block _ (Array.getElem?_eq_some_iff.1 HZ0.out).1).trans HZ0.out)
   clear hb HB0 HZ0
   go_wp2_with fail
   refine (iY.out _ (HI.out.below HB1.out)).mono ?_
   rintro e w2 ⟨rfl,hb⟩
   have HB2:=Lib.hid (HB1.out.trans (hb.mono HB1.out.size))
   have HZ2:=Lib.hid ((hb.block _ (Array.getElem?_eq_some_iff.1 HZ1.out).1).trans HZ1.out)
   clear hb HB1 HZ1
   go_upto_region 2 with fail
   obtain ⟨g,hg⟩: ∃g,w2.heap.size=g:=⟨_,rfl⟩
   generalize hW:World.alloc w2 _=W3
   have HP:Hid (Pn R w w.heap.size g (g + 1) W3 ⟨hd 3 ln,.nil,.nil,zS⟩ s):=Lib.hid (by
    have hl:=HI.out.lt
    have hzl:=(Array.getElem?_eq_some_iff.1 HZ2.out).1
    rw [← hW,← hg]
    exact ⟨(HI.out.below HB2.out).below (ah _ _),dP (aH HB2.out) _,by omega,by simp,heap_alloc_new _ _,(heap_alloc_old _ _ hzl).trans HZ2.out,lX cO.out HL.out,lW _ _ _ _⟩)
   rw [hg]
   clear hW hg HB2 HZ2
   have e0:World.cell? _ ⟨g,0,none⟩=some (.int .i64 3):=HP.out.cell (j:=0) rfl
   obtain ⟨pos,bad,⟨hp,hp2,hl,hlt,hbr⟩,gU,⟨bL,bK⟩,c0,c1,c2,f1,f2⟩:=HP.out.rd.open
   have HA:=Lib.hid (HP.out.aD c1 iQ.out)
   go_upto_region 5 with fail
   generalize hW:World.setCell _ _ _=WA
   rw [hW] at HA
   clear hW c0 c1 c2 f1 f2 gU hp hp2 hl hlt hbr bL bK HP
   have HP:=HA
   clear HA
   clear e0
   have e0:World.cell? _ ⟨g,0,none⟩=some (.int .i64 3):=HP.out.cell (j:=0) rfl
   go_wp2_with fail
   refine (HX.out _ HP.out.rd).mono ?_
   rintro e w3 ⟨v,rfl,hv,h2,h3⟩
   have HQ:=Lib.hid (HP.out.then h2 h3)
   have HV:=Lib.hid (hv.mono HP.out.sz)
   clear h2 h3 hv HP
   obtain ⟨cB,bF,rfl,mX,kI⟩:=HV.out
   have HE:=Lib.hid (And.intro mX kI)
   clear mX kI HV
   have c5:=HQ.out.cell (j:=5) rfl
   have c6:=HQ.out.cell (j:=6) rfl
   have c7:=HQ.out.cell (j:=7) rfl
   have c8:=HQ.out.cell (j:=8) rfl
   have f5:=HQ.out.free 5
   have f6:=HQ.out.free 6
   have f7:=HQ.out.free 7
   have f8:=HQ.out.free 8
   unfold exV
   go_upto_region 12 with fail
   generalize hW:World.setCell (World.setCell (World.setCell (World.setCell w3 _ _) _ _) _ _) _ _=WX
   have HP:Hid (Pn R w w.heap.size g (g + 1) WX ⟨bf.ex (hd 3 ln) x,.nil,.nil,{zS with cB:=cB,bF:=bF}⟩ s1):=Lib.hid (by rw [← hW]; exact HQ.out.ex x cB bF HE.out.1 HE.out.2)
   clear hW c5 c6 c7 c8 f5 f6 f7 f8 HQ HE
   clear e0
   have e0:World.cell? _ ⟨g,0,none⟩=some (.int .i64 3):=HP.out.cell (j:=0) rfl
   go_wp2_with fail
   refine (rG.out _ HP.out.rd).mono ?_
   rintro e wb ⟨⟨bC,aV,rfl,hlb,kM⟩,h2,h3⟩
   have HQ:=Lib.hid (HP.out.then h2 h3)
   have HE:=Lib.hid (And.intro hlb (kM.mono HP.out.sz))
   clear hlb kM h2 h3 HP
   have c9:=HQ.out.cell (j:=9) rfl
   have f9:=HQ.out.free 9
   go_upto_region 21 with fail
   generalize hW:World.setCell wb _ _=WB
   have HP:Hid (Pn R w w.heap.size g (g + 1) WB ⟨bf.ex (hd 3 ln) x,b,.nil,{zS with cB:=cB,bF:=bF,bC:=bC,aV:=aV}⟩ s2):=Lib.hid (by rw [← hW]; exact HQ.out.body _ bC aV (Nat.le_trans HE.out.1 (by unfold maxLen; decide)) HE.out.2)
   clear hW c9 f9 HQ HE
   clear e0
   have e0:World.cell? _ ⟨g,0,none⟩=some (.int .i64 3):=HP.out.cell (j:=0) rfl
   go_upto_region 24 with fail
   clear e0
   obtain ⟨⟨y0,y1,y2,y3,y4,y5,y6,y7,y8,y9,dZ⟩,fz⟩:=kC HP.out.z
   have z0:=fz 0
   have z1:=fz 1
   have z2:=fz 2
   have z3:=fz 3
   have z4:=fz 4
   have z5:=fz 5
   have z6:=fz 6
   have z7:=fz 7
   have z8:=fz 8
   have z9:=fz 9
   have jD:=fz 10
   obtain ⟨d0,d1,d2,d3,d4,d5,d6,d7,d8,d9,iJ⟩:=iE HP.out
   clear fz
   go_wp2_with fail
   exact bodyPost_ret (v:=bP _ _ _ _) (by simp [results,Tryz.results118,go_sem,bP,y0,y1,y2,y3,y4,y5,y6,y7,y8,y9,dZ]) rfl (iU HP.out)
  ·rcases h with h | h
   ·rw [h] at HW ⊢
    rw [if_neg (by decide),if_neg (by decide),if_neg (by decide),if_pos (by decide)]
    have cO:Hid (aM 7):=Lib.hid (by unfold aM; decide)
    have rG:Hid (∀w,bn w R s.aD→Calls Tryz.prog 87 #[.pointer (some ⟨R.br,0,none⟩)] w (sQ R w (mh R.ts f s.aD))):=Lib.hid (fun w h=>fD.out s.aD w (qH HF.out (by exact aX.out)) h)
    clear h fD HF aX
    try dsimp only
    generalize mh R.ts f s.aD=oN at *
    obtain ⟨b,s2⟩:=oN
    go_enter Tryz.func118,Tryz.ntmps118
    go_upto_region 1 with fail
    generalize hW:World.alloc w _=W0
    have HB0:Hid (Below w.heap.size w W0):=Lib.hid (by rw [← hW]; exact ah _ _)
    have HZ0:Hid (W0.heap[w.heap.size]? =some (.cells gG 89 (0,0))):=Lib.hid (by rw [← hW]; exact heap_alloc_new _ _)
    clear hW
    go_wp2_with fail
    refine (HW.out _ (HI.out.below HB0.out)).mono ?_
    rintro e w1 ⟨rfl,hb⟩
    have HB1:=Lib.hid (HB0.out.trans (hb.mono HB0.out.size))
    have HZ1:=Lib.hid ((hb.block _ (Array.getElem?_eq_some_iff.1 HZ0.out).1).trans HZ0.out)
    clear hb HB0 HZ0
    go_wp2_with fail
    refine (iY.out _ (HI.out.below HB1.out)).mono ?_
    rintro e w2 ⟨rfl,hb⟩
    have HB2:=Lib.hid (HB1.out.trans (hb.mono HB1.out.size))
    have HZ2:=Lib.hid ((hb.block _ (Array.getElem?_eq_some_iff.1 HZ1.out).1).trans HZ1.out)
    clear hb HB1 HZ1
    go_upto_region 2 with fail
    obtain ⟨g,hg⟩: ∃g,w2.heap.size=g:=⟨_,rfl⟩
    generalize hW:World.alloc w2 _=W3
    have HP:Hid (Pn R w w.heap.size g (g + 1) W3 ⟨hd 7 ln,.nil,.nil,zS⟩ s):=Lib.hid (by
     have hl:=HI.out.lt
     have hzl:=(Array.getElem?_eq_some_iff.1 HZ2.out).1
     rw [← hW,← hg]
     exact ⟨(HI.out.below HB2.out).below (ah _ _),dP (aH HB2.out) _,by omega,by simp,heap_alloc_new _ _,(heap_alloc_old _ _ hzl).trans HZ2.out,lX cO.out HL.out,lW _ _ _ _⟩)
    rw [hg]
    clear hW hg HB2 HZ2
    have e0:World.cell? _ ⟨g,0,none⟩=some (.int .i64 7):=HP.out.cell (j:=0) rfl
    obtain ⟨pos,bad,⟨hp,hp2,hl,hlt,hbr⟩,gU,⟨bL,bK⟩,c0,c1,c2,f1,f2⟩:=HP.out.rd.open
    have HA:=Lib.hid (HP.out.aD c1 iQ.out)
    go_upto_region 5 with fail
    generalize hW:World.setCell _ _ _=WA
    rw [hW] at HA
    clear hW c0 c1 c2 f1 f2 gU hp hp2 hl hlt hbr bL bK HP
    have HP:=HA
    clear HA
    clear e0
    have e0:World.cell? _ ⟨g,0,none⟩=some (.int .i64 7):=HP.out.cell (j:=0) rfl
    go_upto_region 12 with fail
    go_wp2_with fail
    refine (rG.out _ HP.out.rd).mono ?_
    rintro e wb ⟨⟨bC,aV,rfl,hlb,kM⟩,h2,h3⟩
    have HQ:=Lib.hid (HP.out.then h2 h3)
    have HE:=Lib.hid (And.intro hlb (kM.mono HP.out.sz))
    clear hlb kM h2 h3 HP
    have c9:=HQ.out.cell (j:=9) rfl
    have f9:=HQ.out.free 9
    go_upto_region 21 with fail
    generalize hW:World.setCell wb _ _=WB
    have HP:Hid (Pn R w w.heap.size g (g + 1) WB ⟨hd 7 ln,b,.nil,{zS with bC:=bC,aV:=aV}⟩ s2):=Lib.hid (by rw [← hW]; exact HQ.out.body _ bC aV (Nat.le_trans HE.out.1 (by unfold maxLen; decide)) HE.out.2)
    clear hW c9 f9 HQ HE
    clear e0
    have e0:World.cell? _ ⟨g,0,none⟩=some (.int .i64 7):=HP.out.cell (j:=0) rfl
    go_upto_region 24 with fail
    clear e0
    obtain ⟨⟨y0,y1,y2,y3,y4,y5,y6,y7,y8,y9,dZ⟩,fz⟩:=kC HP.out.z
    have z0:=fz 0
    have z1:=fz 1
    have z2:=fz 2
    have z3:=fz 3
    have z4:=fz 4
    have z5:=fz 5
    have z6:=fz 6
    have z7:=fz 7
    have z8:=fz 8
    have z9:=fz 9
    have jD:=fz 10
    obtain ⟨d0,d1,d2,d3,d4,d5,d6,d7,d8,d9,iJ⟩:=iE HP.out
    clear fz
    go_wp2_with fail
    exact bodyPost_ret (v:=bP _ _ _ _) (by simp [results,Tryz.results118,go_sem,bP,y0,y1,y2,y3,y4,y5,y6,y7,y8,y9,dZ]) rfl (iU HP.out)
   ·rw [h] at HW ⊢
    rw [if_neg (by decide),if_neg (by decide),if_neg (by decide),if_pos (by decide)]
    have cO:Hid (aM 8):=Lib.hid (by unfold aM; decide)
    have rG:Hid (∀w,bn w R s.aD→Calls Tryz.prog 87 #[.pointer (some ⟨R.br,0,none⟩)] w (sQ R w (mh R.ts f s.aD))):=Lib.hid (fun w h=>fD.out s.aD w (qH HF.out (by exact aX.out)) h)
    clear h fD HF aX
    try dsimp only
    generalize mh R.ts f s.aD=oN at *
    obtain ⟨b,s2⟩:=oN
    go_enter Tryz.func118,Tryz.ntmps118
    go_upto_region 1 with fail
    generalize hW:World.alloc w _=W0
    have HB0:Hid (Below w.heap.size w W0):=Lib.hid (by rw [← hW]; exact ah _ _)
    have HZ0:Hid (W0.heap[w.heap.size]? =some (.cells gG 89 (0,0))):=Lib.hid (by rw [← hW]; exact heap_alloc_new _ _)
    clear hW
    go_wp2_with fail
    refine (HW.out _ (HI.out.below HB0.out)).mono ?_
    rintro e w1 ⟨rfl,hb⟩
    have HB1:=Lib.hid (HB0.out.trans (hb.mono HB0.out.size))
    have HZ1:=Lib.hid ((hb.block _ (Array.getElem?_eq_some_iff.1 HZ0.out).1).trans HZ0.out)
    clear hb HB0 HZ0
    go_wp2_with fail
    refine (iY.out _ (HI.out.below HB1.out)).mono ?_
    rintro e w2 ⟨rfl,hb⟩
    have HB2:=Lib.hid (HB1.out.trans (hb.mono HB1.out.size))
    have HZ2:=Lib.hid ((hb.block _ (Array.getElem?_eq_some_iff.1 HZ1.out).1).trans HZ1.out)
    clear hb HB1 HZ1
    go_upto_region 2 with fail
    obtain ⟨g,hg⟩: ∃g,w2.heap.size=g:=⟨_,rfl⟩
    generalize hW:World.alloc w2 _=W3
    have HP:Hid (Pn R w w.heap.size g (g + 1) W3 ⟨hd 8 ln,.nil,.nil,zS⟩ s):=Lib.hid (by
     have hl:=HI.out.lt
     have hzl:=(Array.getElem?_eq_some_iff.1 HZ2.out).1
     rw [← hW,← hg]
     exact ⟨(HI.out.below HB2.out).below (ah _ _),dP (aH HB2.out) _,by omega,by simp,heap_alloc_new _ _,(heap_alloc_old _ _ hzl).trans HZ2.out,lX cO.out HL.out,lW _ _ _ _⟩)
    rw [hg]
    clear hW hg HB2 HZ2
    have e0:World.cell? _ ⟨g,0,none⟩=some (.int .i64 8):=HP.out.cell (j:=0) rfl
    obtain ⟨pos,bad,⟨hp,hp2,hl,hlt,hbr⟩,gU,⟨bL,bK⟩,c0,c1,c2,f1,f2⟩:=HP.out.rd.open
    have HA:=Lib.hid (HP.out.aD c1 iQ.out)
    go_upto_region 5 with fail
    generalize hW:World.setCell _ _ _=WA
    rw [hW] at HA
    clear hW c0 c1 c2 f1 f2 gU hp hp2 hl hlt hbr bL bK HP
    have HP:=HA
    clear HA
    clear e0
    have e0:World.cell? _ ⟨g,0,none⟩=some (.int .i64 8):=HP.out.cell (j:=0) rfl
    go_upto_region 12 with fail
    go_wp2_with fail
    refine (rG.out _ HP.out.rd).mono ?_
    rintro e wb ⟨⟨bC,aV,rfl,hlb,kM⟩,h2,h3⟩
    have HQ:=Lib.hid (HP.out.then h2 h3)
    have HE:=Lib.hid (And.intro hlb (kM.mono HP.out.sz))
    clear hlb kM h2 h3 HP
    have c9:=HQ.out.cell (j:=9) rfl
    have f9:=HQ.out.free 9
    go_upto_region 21 with fail
    generalize hW:World.setCell wb _ _=WB
    have HP:Hid (Pn R w w.heap.size g (g + 1) WB ⟨hd 8 ln,b,.nil,{zS with bC:=bC,aV:=aV}⟩ s2):=Lib.hid (by rw [← hW]; exact HQ.out.body _ bC aV (Nat.le_trans HE.out.1 (by unfold maxLen; decide)) HE.out.2)
    clear hW c9 f9 HQ HE
    clear e0
    have e0:World.cell? _ ⟨g,0,none⟩=some (.int .i64 8):=HP.out.cell (j:=0) rfl
    go_upto_region 24 with fail
    clear e0
    obtain ⟨⟨y0,y1,y2,y3,y4,y5,y6,y7,y8,y9,dZ⟩,fz⟩:=kC HP.out.z
    have z0:=fz 0
    have z1:=fz 1
    have z2:=fz 2
    have z3:=fz 3
    have z4:=fz 4
    have z5:=fz 5
    have z6:=fz 6
    have z7:=fz 7
    have z8:=fz 8
    have z9:=fz 9
    have jD:=fz 10
    obtain ⟨d0,d1,d2,d3,d4,d5,d6,d7,d8,d9,iJ⟩:=iE HP.out
    clear fz
    go_wp2_with fail
    exact bodyPost_ret (v:=bP _ _ _ _) (by simp [results,Tryz.results118,go_sem,bP,y0,y1,y2,y3,y4,y5,y6,y7,y8,y9,dZ]) rfl (iU HP.out)
  ·rcases h with h | h | h
   ·rw [h] at HW ⊢
    rw [if_neg (by decide),if_neg (by decide),if_neg (by decide),if_neg (by decide)]
    have cO:Hid (aM 4):=Lib.hid (by unfold aM; decide)
    obtain ⟨q,hq⟩: ∃q,aJ R.ts s.aD=q:=⟨_,rfl⟩
    have eH:Hid ((aJ R.ts s.aD).1.size≤maxLen):=Lib.hid (fZ (by
     intro t ht
     refine HI.out.ts t ?_
     cases s with
     | go r=>exact List.mem_of_mem_tail ht
     | bad n=>exact ht))
    have gI:Hid (∀w,bn w R s.aD→Calls Tryz.prog 83 #[.pointer (some ⟨R.br,0,none⟩)] w (qP R w (aJ R.ts s.aD))):=Lib.hid (fun w h=>gQ R _ w h)
    have eP:Hid ((aJ R.ts s.aD).2.len≤s.aD.len):=Lib.hid (fJ _)
    have jg:Hid (kW (aJ R.ts s.aD).2.toks):=Lib.hid (nX HI.out)
    rw [hq] at eH gI eP jg ⊢
    clear hq
    obtain ⟨nm,s1⟩:=q
    dsimp only at eH eP jg ⊢
    unfold oV
    rw [if_pos (by decide)]
    have rG:Hid (∀w,bn w R s1→Calls Tryz.prog 87 #[.pointer (some ⟨R.br,0,none⟩)] w (sQ R w (mh R.ts f s1))):=Lib.hid (fun w h=>fD.out s1 w (qH HF.out (by have h1:=eP.out; have:=aX.out; omega)) h)
    clear h fD HF aX eP jg
    generalize mh R.ts f s1=oN at *
    obtain ⟨b,s2⟩:=oN
    go_enter Tryz.func118,Tryz.ntmps118
    go_upto_region 1 with fail
    generalize hW:World.alloc w _=W0
    have HB0:Hid (Below w.heap.size w W0):=Lib.hid (by rw [← hW]; exact ah _ _)
    have HZ0:Hid (W0.heap[w.heap.size]? =some (.cells gG 89 (0,0))):=Lib.hid (by rw [← hW]; exact heap_alloc_new _ _)
    clear hW
    go_wp2_with fail
    refine (HW.out _ (HI.out.below HB0.out)).mono ?_
    rintro e w1 ⟨rfl,hb⟩
    have HB1:=Lib.hid (HB0.out.trans (hb.mono HB0.out.size))
    have HZ1:=Lib.hid ((hb.block _ (Array.getElem?_eq_some_iff.1 HZ0.out).1).trans HZ0.out)
    clear hb HB0 HZ0
    go_wp2_with fail
    refine (iY.out _ (HI.out.below HB1.out)).mono ?_
    rintro e w2 ⟨rfl,hb⟩
    have HB2:=Lib.hid (HB1.out.trans (hb.mono HB1.out.size))
    have HZ2:=Lib.hid ((hb.block _ (Array.getElem?_eq_some_iff.1 HZ1.out).1).trans HZ1.out)
    clear hb HB1 HZ1
    go_upto_region 2 with fail
    obtain ⟨g,hg⟩: ∃g,w2.heap.size=g:=⟨_,rfl⟩
    generalize hW:World.alloc w2 _=W3
    have HP:Hid (Pn R w w.heap.size g (g + 1) W3 ⟨hd 4 ln,.nil,.nil,zS⟩ s):=Lib.hid (by
     have hl:=HI.out.lt
     have hzl:=(Array.getElem?_eq_some_iff.1 HZ2.out).1
     rw [← hW,← hg]
     exact ⟨(HI.out.below HB2.out).below (ah _ _),dP (aH HB2.out) _,by omega,by simp,heap_alloc_new _ _,(heap_alloc_old _ _ hzl).trans HZ2.out,lX cO.out HL.out,lW _ _ _ _⟩)
    rw [hg]
    clear hW hg HB2 HZ2
    have e0:World.cell? _ ⟨g,0,none⟩=some (.int .i64 4):=HP.out.cell (j:=0) rfl
    obtain ⟨pos,bad,⟨hp,hp2,hl,hlt,hbr⟩,gU,⟨bL,bK⟩,c0,c1,c2,f1,f2⟩:=HP.out.rd.open
    have HA:=Lib.hid (HP.out.aD c1 iQ.out)
    go_upto_region 5 with fail
    generalize hW:World.setCell _ _ _=WA
    rw [hW] at HA
    clear hW c0 c1 c2 f1 f2 gU hp hp2 hl hlt hbr bL bK HP
    have HP:=HA
    clear HA
    clear e0
    have e0:World.cell? _ ⟨g,0,none⟩=some (.int .i64 4):=HP.out.cell (j:=0) rfl
    go_wp2_with fail
    refine (gI.out _ HP.out.rd).mono ?_
    rintro e wn ⟨rfl,h2,h3⟩
    have HQ:=Lib.hid (HP.out.then h2 h3)
    have c2:=HQ.out.cell (j:=2) rfl
    have f2:=HQ.out.free 2
    clear h2 h3 HP
    go_upto_region 12 with fail
    generalize hW:World.setCell wn _ _=WN
    have HP:Hid (Pn R w w.heap.size g (g + 1) WN ⟨{hd 4 ln with nm:=nm},.nil,.nil,zS⟩ s1):=Lib.hid (by rw [← hW]; exact HQ.out.nm _ eH.out)
    clear hW c2 f2 HQ
    clear e0
    have e0:World.cell? _ ⟨g,0,none⟩=some (.int .i64 4):=HP.out.cell (j:=0) rfl
    go_wp2_with fail
    refine (rG.out _ HP.out.rd).mono ?_
    rintro e wb ⟨⟨bC,aV,rfl,hlb,kM⟩,h2,h3⟩
    have HQ:=Lib.hid (HP.out.then h2 h3)
    have HE:=Lib.hid (And.intro hlb (kM.mono HP.out.sz))
    clear hlb kM h2 h3 HP
    have c9:=HQ.out.cell (j:=9) rfl
    have f9:=HQ.out.free 9
    go_upto_region 21 with fail
    generalize hW:World.setCell wb _ _=WB
    have HP:Hid (Pn R w w.heap.size g (g + 1) WB ⟨{hd 4 ln with nm:=nm},b,.nil,{zS with bC:=bC,aV:=aV}⟩ s2):=Lib.hid (by rw [← hW]; exact HQ.out.body _ bC aV (Nat.le_trans HE.out.1 (by unfold maxLen; decide)) HE.out.2)
    clear hW c9 f9 HQ HE
    clear e0
    have e0:World.cell? _ ⟨g,0,none⟩=some (.int .i64 4):=HP.out.cell (j:=0) rfl
    go_upto_region 24 with fail
    clear e0
    obtain ⟨⟨y0,y1,y2,y3,y4,y5,y6,y7,y8,y9,dZ⟩,fz⟩:=kC HP.out.z
    have z0:=fz 0
    have z1:=fz 1
    have z2:=fz 2
    have z3:=fz 3
    have z4:=fz 4
    have z5:=fz 5
    have z6:=fz 6
    have z7:=fz 7
    have z8:=fz 8
    have z9:=fz 9
    have jD:=fz 10
    obtain ⟨d0,d1,d2,d3,d4,d5,d6,d7,d8,d9,iJ⟩:=iE HP.out
    clear fz
    go_wp2_with fail
    exact bodyPost_ret (v:=bP _ _ _ _) (by simp [results,Tryz.results118,go_sem,bP,y0,y1,y2,y3,y4,y5,y6,y7,y8,y9,dZ]) rfl (iU HP.out)
   ·rw [h] at HW ⊢
    rw [if_neg (by decide),if_neg (by decide),if_neg (by decide),if_neg (by decide)]
    have cO:Hid (aM 5):=Lib.hid (by unfold aM; decide)
    obtain ⟨q,hq⟩: ∃q,aJ R.ts s.aD=q:=⟨_,rfl⟩
    have eH:Hid ((aJ R.ts s.aD).1.size≤maxLen):=Lib.hid (fZ (by
     intro t ht
     refine HI.out.ts t ?_
     cases s with
     | go r=>exact List.mem_of_mem_tail ht
     | bad n=>exact ht))
    have gI:Hid (∀w,bn w R s.aD→Calls Tryz.prog 83 #[.pointer (some ⟨R.br,0,none⟩)] w (qP R w (aJ R.ts s.aD))):=Lib.hid (fun w h=>gQ R _ w h)
    have eP:Hid ((aJ R.ts s.aD).2.len≤s.aD.len):=Lib.hid (fJ _)
    have jg:Hid (kW (aJ R.ts s.aD).2.toks):=Lib.hid (nX HI.out)
    rw [hq] at eH gI eP jg ⊢
    clear hq
    obtain ⟨nm,s1⟩:=q
    dsimp only at eH eP jg ⊢
    unfold oV
    rw [if_pos (by decide)]
    have rG:Hid (∀w,bn w R s1→Calls Tryz.prog 87 #[.pointer (some ⟨R.br,0,none⟩)] w (sQ R w (mh R.ts f s1))):=Lib.hid (fun w h=>fD.out s1 w (qH HF.out (by have h1:=eP.out; have:=aX.out; omega)) h)
    clear h fD HF aX eP jg
    generalize mh R.ts f s1=oN at *
    obtain ⟨b,s2⟩:=oN
    go_enter Tryz.func118,Tryz.ntmps118
    go_upto_region 1 with fail
    generalize hW:World.alloc w _=W0
    have HB0:Hid (Below w.heap.size w W0):=Lib.hid (by rw [← hW]; exact ah _ _)
    have HZ0:Hid (W0.heap[w.heap.size]? =some (.cells gG 89 (0,0))):=Lib.hid (by rw [← hW]; exact heap_alloc_new _ _)
    clear hW
    go_wp2_with fail
    refine (HW.out _ (HI.out.below HB0.out)).mono ?_
    rintro e w1 ⟨rfl,hb⟩
    have HB1:=Lib.hid (HB0.out.trans (hb.mono HB0.out.size))
    have HZ1:=Lib.hid ((hb.block _ (Array.getElem?_eq_some_iff.1 HZ0.out).1).trans HZ0.out)
    clear hb HB0 HZ0
    go_wp2_with fail
    refine (iY.out _ (HI.out.below HB1.out)).mono ?_
    rintro e w2 ⟨rfl,hb⟩
    have HB2:=Lib.hid (HB1.out.trans (hb.mono HB1.out.size))
    have HZ2:=Lib.hid ((hb.block _ (Array.getElem?_eq_some_iff.1 HZ1.out).1).trans HZ1.out)
    clear hb HB1 HZ1
    go_upto_region 2 with fail
    obtain ⟨g,hg⟩: ∃g,w2.heap.size=g:=⟨_,rfl⟩
    generalize hW:World.alloc w2 _=W3
    have HP:Hid (Pn R w w.heap.size g (g + 1) W3 ⟨hd 5 ln,.nil,.nil,zS⟩ s):=Lib.hid (by
     have hl:=HI.out.lt
     have hzl:=(Array.getElem?_eq_some_iff.1 HZ2.out).1
     rw [← hW,← hg]
     exact ⟨(HI.out.below HB2.out).below (ah _ _),dP (aH HB2.out) _,by omega,by simp,heap_alloc_new _ _,(heap_alloc_old _ _ hzl).trans HZ2.out,lX cO.out HL.out,lW _ _ _ _⟩)
    rw [hg]
    clear hW hg HB2 HZ2
    have e0:World.cell? _ ⟨g,0,none⟩=some (.int .i64 5):=HP.out.cell (j:=0) rfl
    obtain ⟨pos,bad,⟨hp,hp2,hl,hlt,hbr⟩,gU,⟨bL,bK⟩,c0,c1,c2,f1,f2⟩:=HP.out.rd.open
    have HA:=Lib.hid (HP.out.aD c1 iQ.out)
    go_upto_region 5 with fail
    generalize hW:World.setCell _ _ _=WA
    rw [hW] at HA
    clear hW c0 c1 c2 f1 f2 gU hp hp2 hl hlt hbr bL bK HP
    have HP:=HA
    clear HA
    clear e0
    have e0:World.cell? _ ⟨g,0,none⟩=some (.int .i64 5):=HP.out.cell (j:=0) rfl
    go_wp2_with fail
    refine (gI.out _ HP.out.rd).mono ?_
    rintro e wn ⟨rfl,h2,h3⟩
    have HQ:=Lib.hid (HP.out.then h2 h3)
    have c2:=HQ.out.cell (j:=2) rfl
    have f2:=HQ.out.free 2
    clear h2 h3 HP
    go_upto_region 12 with fail
    generalize hW:World.setCell wn _ _=WN
    have HP:Hid (Pn R w w.heap.size g (g + 1) WN ⟨{hd 5 ln with nm:=nm},.nil,.nil,zS⟩ s1):=Lib.hid (by rw [← hW]; exact HQ.out.nm _ eH.out)
    clear hW c2 f2 HQ
    clear e0
    have e0:World.cell? _ ⟨g,0,none⟩=some (.int .i64 5):=HP.out.cell (j:=0) rfl
    go_wp2_with fail
    refine (rG.out _ HP.out.rd).mono ?_
    rintro e wb ⟨⟨bC,aV,rfl,hlb,kM⟩,h2,h3⟩
    have HQ:=Lib.hid (HP.out.then h2 h3)
    have HE:=Lib.hid (And.intro hlb (kM.mono HP.out.sz))
    clear hlb kM h2 h3 HP
    have c9:=HQ.out.cell (j:=9) rfl
    have f9:=HQ.out.free 9
    go_upto_region 21 with fail
    generalize hW:World.setCell wb _ _=WB
    have HP:Hid (Pn R w w.heap.size g (g + 1) WB ⟨{hd 5 ln with nm:=nm},b,.nil,{zS with bC:=bC,aV:=aV}⟩ s2):=Lib.hid (by rw [← hW]; exact HQ.out.body _ bC aV (Nat.le_trans HE.out.1 (by unfold maxLen; decide)) HE.out.2)
    clear hW c9 f9 HQ HE
    clear e0
    have e0:World.cell? _ ⟨g,0,none⟩=some (.int .i64 5):=HP.out.cell (j:=0) rfl
    go_upto_region 24 with fail
    clear e0
    obtain ⟨⟨y0,y1,y2,y3,y4,y5,y6,y7,y8,y9,dZ⟩,fz⟩:=kC HP.out.z
    have z0:=fz 0
    have z1:=fz 1
    have z2:=fz 2
    have z3:=fz 3
    have z4:=fz 4
    have z5:=fz 5
    have z6:=fz 6
    have z7:=fz 7
    have z8:=fz 8
    have z9:=fz 9
    have jD:=fz 10
    obtain ⟨d0,d1,d2,d3,d4,d5,d6,d7,d8,d9,iJ⟩:=iE HP.out
    clear fz
    go_wp2_with fail
    exact bodyPost_ret (v:=bP _ _ _ _) (by simp [results,Tryz.results118,go_sem,bP,y0,y1,y2,y3,y4,y5,y6,y7,y8,y9,dZ]) rfl (iU HP.out)
   ·rw [h] at HW ⊢
    rw [if_neg (by decide),if_neg (by decide),if_neg (by decide),if_neg (by decide)]
    have cO:Hid (aM 6):=Lib.hid (by unfold aM; decide)
    obtain ⟨q,hq⟩: ∃q,aJ R.ts s.aD=q:=⟨_,rfl⟩
    have eH:Hid ((aJ R.ts s.aD).1.size≤maxLen):=Lib.hid (fZ (by
     intro t ht
     refine HI.out.ts t ?_
     cases s with
     | go r=>exact List.mem_of_mem_tail ht
     | bad n=>exact ht))
    have gI:Hid (∀w,bn w R s.aD→Calls Tryz.prog 83 #[.pointer (some ⟨R.br,0,none⟩)] w (qP R w (aJ R.ts s.aD))):=Lib.hid (fun w h=>gQ R _ w h)
    have eP:Hid ((aJ R.ts s.aD).2.len≤s.aD.len):=Lib.hid (fJ _)
    have jg:Hid (kW (aJ R.ts s.aD).2.toks):=Lib.hid (nX HI.out)
    rw [hq] at eH gI eP jg ⊢
    clear hq
    obtain ⟨nm,s1⟩:=q
    dsimp only at eH eP jg ⊢
    unfold oV
    rw [if_pos (by decide)]
    have rG:Hid (∀w,bn w R s1→Calls Tryz.prog 87 #[.pointer (some ⟨R.br,0,none⟩)] w (sQ R w (mh R.ts f s1))):=Lib.hid (fun w h=>fD.out s1 w (qH HF.out (by have h1:=eP.out; have:=aX.out; omega)) h)
    clear h fD HF aX eP jg
    generalize mh R.ts f s1=oN at *
    obtain ⟨b,s2⟩:=oN
    go_enter Tryz.func118,Tryz.ntmps118
    go_upto_region 1 with fail
    generalize hW:World.alloc w _=W0
    have HB0:Hid (Below w.heap.size w W0):=Lib.hid (by rw [← hW]; exact ah _ _)
    have HZ0:Hid (W0.heap[w.heap.size]? =some (.cells gG 89 (0,0))):=Lib.hid (by rw [← hW]; exact heap_alloc_new _ _)
    clear hW
    go_wp2_with fail
    refine (HW.out _ (HI.out.below HB0.out)).mono ?_
    rintro e w1 ⟨rfl,hb⟩
    have HB1:=Lib.hid (HB0.out.trans (hb.mono HB0.out.size))
    have HZ1:=Lib.hid ((hb.block _ (Array.getElem?_eq_some_iff.1 HZ0.out).1).trans HZ0.out)
    clear hb HB0 HZ0
    go_wp2_with fail
    refine (iY.out _ (HI.out.below HB1.out)).mono ?_
    rintro e w2 ⟨rfl,hb⟩
    have HB2:=Lib.hid (HB1.out.trans (hb.mono HB1.out.size))
    have HZ2:=Lib.hid ((hb.block _ (Array.getElem?_eq_some_iff.1 HZ1.out).1).trans HZ1.out)
    clear hb HB1 HZ1
    go_upto_region 2 with fail
    obtain ⟨g,hg⟩: ∃g,w2.heap.size=g:=⟨_,rfl⟩
    generalize hW:World.alloc w2 _=W3
    have HP:Hid (Pn R w w.heap.size g (g + 1) W3 ⟨hd 6 ln,.nil,.nil,zS⟩ s):=Lib.hid (by
     have hl:=HI.out.lt
     have hzl:=(Array.getElem?_eq_some_iff.1 HZ2.out).1
     rw [← hW,← hg]
     exact ⟨(HI.out.below HB2.out).below (ah _ _),dP (aH HB2.out) _,by omega,by simp,heap_alloc_new _ _,(heap_alloc_old _ _ hzl).trans HZ2.out,lX cO.out HL.out,lW _ _ _ _⟩)
    rw [hg]
    clear hW hg HB2 HZ2
    have e0:World.cell? _ ⟨g,0,none⟩=some (.int .i64 6):=HP.out.cell (j:=0) rfl
    obtain ⟨pos,bad,⟨hp,hp2,hl,hlt,hbr⟩,gU,⟨bL,bK⟩,c0,c1,c2,f1,f2⟩:=HP.out.rd.open
    have HA:=Lib.hid (HP.out.aD c1 iQ.out)
    go_upto_region 5 with fail
    generalize hW:World.setCell _ _ _=WA
    rw [hW] at HA
    clear hW c0 c1 c2 f1 f2 gU hp hp2 hl hlt hbr bL bK HP
    have HP:=HA
    clear HA
    clear e0
    have e0:World.cell? _ ⟨g,0,none⟩=some (.int .i64 6):=HP.out.cell (j:=0) rfl
    go_wp2_with fail
    refine (gI.out _ HP.out.rd).mono ?_
    rintro e wn ⟨rfl,h2,h3⟩
    have HQ:=Lib.hid (HP.out.then h2 h3)
    have c2:=HQ.out.cell (j:=2) rfl
    have f2:=HQ.out.free 2
    clear h2 h3 HP
    go_upto_region 12 with fail
    generalize hW:World.setCell wn _ _=WN
    have HP:Hid (Pn R w w.heap.size g (g + 1) WN ⟨{hd 6 ln with nm:=nm},.nil,.nil,zS⟩ s1):=Lib.hid (by rw [← hW]; exact HQ.out.nm _ eH.out)
    clear hW c2 f2 HQ
    clear e0
    have e0:World.cell? _ ⟨g,0,none⟩=some (.int .i64 6):=HP.out.cell (j:=0) rfl
    go_wp2_with fail
    refine (rG.out _ HP.out.rd).mono ?_
    rintro e wb ⟨⟨bC,aV,rfl,hlb,kM⟩,h2,h3⟩
    have HQ:=Lib.hid (HP.out.then h2 h3)
    have HE:=Lib.hid (And.intro hlb (kM.mono HP.out.sz))
    clear hlb kM h2 h3 HP
    have c9:=HQ.out.cell (j:=9) rfl
    have f9:=HQ.out.free 9
    go_upto_region 21 with fail
    generalize hW:World.setCell wb _ _=WB
    have HP:Hid (Pn R w w.heap.size g (g + 1) WB ⟨{hd 6 ln with nm:=nm},b,.nil,{zS with bC:=bC,aV:=aV}⟩ s2):=Lib.hid (by rw [← hW]; exact HQ.out.body _ bC aV (Nat.le_trans HE.out.1 (by unfold maxLen; decide)) HE.out.2)
    clear hW c9 f9 HQ HE
    clear e0
    have e0:World.cell? _ ⟨g,0,none⟩=some (.int .i64 6):=HP.out.cell (j:=0) rfl
    go_upto_region 24 with fail
    clear e0
    obtain ⟨⟨y0,y1,y2,y3,y4,y5,y6,y7,y8,y9,dZ⟩,fz⟩:=kC HP.out.z
    have z0:=fz 0
    have z1:=fz 1
    have z2:=fz 2
    have z3:=fz 3
    have z4:=fz 4
    have z5:=fz 5
    have z6:=fz 6
    have z7:=fz 7
    have z8:=fz 8
    have z9:=fz 9
    have jD:=fz 10
    obtain ⟨d0,d1,d2,d3,d4,d5,d6,d7,d8,d9,iJ⟩:=iE HP.out
    clear fz
    go_wp2_with fail
    exact bodyPost_ret (v:=bP _ _ _ _) (by simp [results,Tryz.results118,go_sem,bP,y0,y1,y2,y3,y4,y5,y6,y7,y8,y9,dZ]) rfl (iU HP.out)
  ·rw [h] at HW ⊢
   rw [if_neg (by decide),if_neg (by decide),if_neg (by decide),if_neg (by decide)]
   have cO:Hid (aM 14):=Lib.hid (by unfold aM; decide)
   obtain ⟨q,hq⟩: ∃q,aJ R.ts s.aD=q:=⟨_,rfl⟩
   have eH:Hid ((aJ R.ts s.aD).1.size≤maxLen):=Lib.hid (fZ (by
    intro t ht
    refine HI.out.ts t ?_
    cases s with
    | go r=>exact List.mem_of_mem_tail ht
    | bad n=>exact ht))
   have gI:Hid (∀w,bn w R s.aD→Calls Tryz.prog 83 #[.pointer (some ⟨R.br,0,none⟩)] w (qP R w (aJ R.ts s.aD))):=Lib.hid (fun w h=>gQ R _ w h)
   have eP:Hid ((aJ R.ts s.aD).2.len≤s.aD.len):=Lib.hid (fJ _)
   have jg:Hid (kW (aJ R.ts s.aD).2.toks):=Lib.hid (nX HI.out)
   rw [hq] at eH gI eP jg ⊢
   clear hq
   obtain ⟨nm,s1⟩:=q
   dsimp only at eH eP jg ⊢
   unfold oV
   rw [if_neg (by decide),if_pos (by decide)]
   have HX:Hid (∀w,bn w R s1→Calls Tryz.prog 53 #[.pointer (some ⟨R.br,0,none⟩),.int .i64 1] w (mM R w (dQ R.ts s1))):=Lib.hid (fun w h=>qy R _ w h)
   generalize dQ R.ts s1=res at *
   obtain ⟨x,s2⟩:=res
   clear h fD HF aX eP jg
   go_enter Tryz.func118,Tryz.ntmps118
   go_upto_region 1 with fail
   generalize hW:World.alloc w _=W0
   have HB0:Hid (Below w.heap.size w W0):=Lib.hid (by rw [← hW]; exact ah _ _)
   have HZ0:Hid (W0.heap[w.heap.size]? =some (.cells gG 89 (0,0))):=Lib.hid (by rw [← hW]; exact heap_alloc_new _ _)
   clear hW
   go_wp2_with fail
   refine (HW.out _ (HI.out.below HB0.out)).mono ?_
   rintro e w1 ⟨rfl,hb⟩
   have HB1:=Lib.hid (HB0.out.trans (hb.mono HB0.out.size))
   have HZ1:=Lib.hid ((hb.block _ (Array.getElem?_eq_some_iff.1 HZ0.out).1).trans HZ0.out)
   clear hb HB0 HZ0
   go_wp2_with fail
   refine (iY.out _ (HI.out.below HB1.out)).mono ?_
   rintro e w2 ⟨rfl,hb⟩
   have HB2:=Lib.hid (HB1.out.trans (hb.mono HB1.out.size))
   have HZ2:=Lib.hid ((hb.block _ (Array.getElem?_eq_some_iff.1 HZ1.out).1).trans HZ1.out)
   clear hb HB1 HZ1
   go_upto_region 2 with fail
   obtain ⟨g,hg⟩: ∃g,w2.heap.size=g:=⟨_,rfl⟩
   generalize hW:World.alloc w2 _=W3
   have HP:Hid (Pn R w w.heap.size g (g + 1) W3 ⟨hd 14 ln,.nil,.nil,zS⟩ s):=Lib.hid (by
    have hl:=HI.out.lt
    have hzl:=(Array.getElem?_eq_some_iff.1 HZ2.out).1
    rw [← hW,← hg]
    exact ⟨(HI.out.below HB2.out).below (ah _ _),dP (aH HB2.out) _,by omega,by simp,heap_alloc_new _ _,(heap_alloc_old _ _ hzl).trans HZ2.out,lX cO.out HL.out,lW _ _ _ _⟩)
   rw [hg]
   clear hW hg HB2 HZ2
   have e0:World.cell? _ ⟨g,0,none⟩=some (.int .i64 14):=HP.out.cell (j:=0) rfl
   obtain ⟨pos,bad,⟨hp,hp2,hl,hlt,hbr⟩,gU,⟨bL,bK⟩,c0,c1,c2,f1,f2⟩:=HP.out.rd.open
   have HA:=Lib.hid (HP.out.aD c1 iQ.out)
   go_upto_region 5 with fail
   generalize hW:World.setCell _ _ _=WA
   rw [hW] at HA
   clear hW c0 c1 c2 f1 f2 gU hp hp2 hl hlt hbr bL bK HP
   have HP:=HA
   clear HA
   clear e0
   have e0:World.cell? _ ⟨g,0,none⟩=some (.int .i64 14):=HP.out.cell (j:=0) rfl
   go_wp2_with fail
   refine (gI.out _ HP.out.rd).mono ?_
   rintro e wn ⟨rfl,h2,h3⟩
   have HQ:=Lib.hid (HP.out.then h2 h3)
   have c2:=HQ.out.cell (j:=2) rfl
   have f2:=HQ.out.free 2
   clear h2 h3 HP
   go_upto_region 12 with fail
   generalize hW:World.setCell wn _ _=WN
   have HP:Hid (Pn R w w.heap.size g (g + 1) WN ⟨{hd 14 ln with nm:=nm},.nil,.nil,zS⟩ s1):=Lib.hid (by rw [← hW]; exact HQ.out.nm _ eH.out)
   clear hW c2 f2 HQ
   clear e0
   have e0:World.cell? _ ⟨g,0,none⟩=some (.int .i64 14):=HP.out.cell (j:=0) rfl
   go_wp2_with fail
   refine (HX.out _ HP.out.rd).mono ?_
   rintro e w3 ⟨v,rfl,hv,h2,h3⟩
   have HQ:=Lib.hid (HP.out.then h2 h3)
   have HV:=Lib.hid (hv.mono HP.out.sz)
   clear h2 h3 hv HP
   obtain ⟨cB,bF,rfl,mX,kI⟩:=HV.out
   have HE:=Lib.hid (And.intro mX kI)
   clear mX kI HV
   have c5:=HQ.out.cell (j:=5) rfl
   have c6:=HQ.out.cell (j:=6) rfl
   have c7:=HQ.out.cell (j:=7) rfl
   have c8:=HQ.out.cell (j:=8) rfl
   have f5:=HQ.out.free 5
   have f6:=HQ.out.free 6
   have f7:=HQ.out.free 7
   have f8:=HQ.out.free 8
   unfold exV
   go_upto_region 29 with fail
   generalize hW:World.setCell (World.setCell (World.setCell (World.setCell w3 _ _) _ _) _ _) _ _=WX
   have HP:Hid (Pn R w w.heap.size g (g + 1) WX ⟨bf.ex {hd 14 ln with nm:=nm} x,.nil,.nil,{zS with cB:=cB,bF:=bF}⟩ s2):=Lib.hid (by rw [← hW]; exact HQ.out.ex x cB bF HE.out.1 HE.out.2)
   clear hW c5 c6 c7 c8 f5 f6 f7 f8 HQ HE
   clear e0
   go_wp2_with fail
   refine (fC R _ _ ⟨#[59]⟩ rfl HP.out.rd).mono ?_
   rintro e w9 ⟨rfl,h2,h3⟩
   have HQ:=Lib.hid (HP.out.then h2 h3)
   clear h2 h3 HP
   have HP:=HQ
   clear HQ
   obtain ⟨⟨y0,y1,y2,y3,y4,y5,y6,y7,y8,y9,dZ⟩,fz⟩:=kC HP.out.z
   have z0:=fz 0
   have z1:=fz 1
   have z2:=fz 2
   have z3:=fz 3
   have z4:=fz 4
   have z5:=fz 5
   have z6:=fz 6
   have z7:=fz 7
   have z8:=fz 8
   have z9:=fz 9
   have jD:=fz 10
   obtain ⟨d0,d1,d2,d3,d4,d5,d6,d7,d8,d9,iJ⟩:=iE HP.out
   clear fz
   go_wp2_with fail
   exact bodyPost_ret (v:=bP _ _ _ _) (by simp [results,Tryz.results118,go_sem,bP,y0,y1,y2,y3,y4,y5,y6,y7,y8,y9,dZ]) rfl (iU HP.out)
  ·rw [h] at HW ⊢
   rw [if_neg (by decide),if_neg (by decide),if_neg (by decide),if_neg (by decide)]
   have cO:Hid (aM 15):=Lib.hid (by unfold aM; decide)
   obtain ⟨q,hq⟩: ∃q,aJ R.ts s.aD=q:=⟨_,rfl⟩
   have eH:Hid ((aJ R.ts s.aD).1.size≤maxLen):=Lib.hid (fZ (by
    intro t ht
    refine HI.out.ts t ?_
    cases s with
    | go r=>exact List.mem_of_mem_tail ht
    | bad n=>exact ht))
   have gI:Hid (∀w,bn w R s.aD→Calls Tryz.prog 83 #[.pointer (some ⟨R.br,0,none⟩)] w (qP R w (aJ R.ts s.aD))):=Lib.hid (fun w h=>gQ R _ w h)
   have eP:Hid ((aJ R.ts s.aD).2.len≤s.aD.len):=Lib.hid (fJ _)
   have jg:Hid (kW (aJ R.ts s.aD).2.toks):=Lib.hid (nX HI.out)
   rw [hq] at eH gI eP jg ⊢
   clear hq
   obtain ⟨nm,s1⟩:=q
   dsimp only at eH eP jg ⊢
   unfold oV
   rw [if_neg (by decide),if_neg (by decide),if_pos (by decide)]
   have AU:Hid ((aJ R.ts s1).1.size≤maxLen):=Lib.hid (fZ jg.out)
   have am9:Hid (∀w,bn w R s1→Calls Tryz.prog 83 #[.pointer (some ⟨R.br,0,none⟩)] w (qP R w (aJ R.ts s1))):=Lib.hid (fun w h=>gQ R _ w h)
   generalize aJ R.ts s1=q2 at *
   obtain ⟨nm2,s2⟩:=q2
   clear h fD HF aX eP jg
   go_enter Tryz.func118,Tryz.ntmps118
   go_upto_region 1 with fail
   generalize hW:World.alloc w _=W0
   have HB0:Hid (Below w.heap.size w W0):=Lib.hid (by rw [← hW]; exact ah _ _)
   have HZ0:Hid (W0.heap[w.heap.size]? =some (.cells gG 89 (0,0))):=Lib.hid (by rw [← hW]; exact heap_alloc_new _ _)
   clear hW
   go_wp2_with fail
   refine (HW.out _ (HI.out.below HB0.out)).mono ?_
   rintro e w1 ⟨rfl,hb⟩
   have HB1:=Lib.hid (HB0.out.trans (hb.mono HB0.out.size))
   have HZ1:=Lib.hid ((hb.block _ (Array.getElem?_eq_some_iff.1 HZ0.out).1).trans HZ0.out)
   clear hb HB0 HZ0
   go_wp2_with fail
   refine (iY.out _ (HI.out.below HB1.out)).mono ?_
   rintro e w2 ⟨rfl,hb⟩
   have HB2:=Lib.hid (HB1.out.trans (hb.mono HB1.out.size))
   have HZ2:=Lib.hid ((hb.block _ (Array.getElem?_eq_some_iff.1 HZ1.out).1).trans HZ1.out)
   clear hb HB1 HZ1
   go_upto_region 2 with fail
   obtain ⟨g,hg⟩: ∃g,w2.heap.size=g:=⟨_,rfl⟩
   generalize hW:World.alloc w2 _=W3
   have HP:Hid (Pn R w w.heap.size g (g + 1) W3 ⟨hd 15 ln,.nil,.nil,zS⟩ s):=Lib.hid (by
    have hl:=HI.out.lt
    have hzl:=(Array.getElem?_eq_some_iff.1 HZ2.out).1
    rw [← hW,← hg]
    exact ⟨(HI.out.below HB2.out).below (ah _ _),dP (aH HB2.out) _,by omega,by simp,heap_alloc_new _ _,(heap_alloc_old _ _ hzl).trans HZ2.out,lX cO.out HL.out,lW _ _ _ _⟩)
   rw [hg]
   clear hW hg HB2 HZ2
   have e0:World.cell? _ ⟨g,0,none⟩=some (.int .i64 15):=HP.out.cell (j:=0) rfl
   obtain ⟨pos,bad,⟨hp,hp2,hl,hlt,hbr⟩,gU,⟨bL,bK⟩,c0,c1,c2,f1,f2⟩:=HP.out.rd.open
   have HA:=Lib.hid (HP.out.aD c1 iQ.out)
   go_upto_region 5 with fail
   generalize hW:World.setCell _ _ _=WA
   rw [hW] at HA
   clear hW c0 c1 c2 f1 f2 gU hp hp2 hl hlt hbr bL bK HP
   have HP:=HA
   clear HA
   clear e0
   have e0:World.cell? _ ⟨g,0,none⟩=some (.int .i64 15):=HP.out.cell (j:=0) rfl
   go_wp2_with fail
   refine (gI.out _ HP.out.rd).mono ?_
   rintro e wn ⟨rfl,h2,h3⟩
   have HQ:=Lib.hid (HP.out.then h2 h3)
   have c2:=HQ.out.cell (j:=2) rfl
   have f2:=HQ.out.free 2
   clear h2 h3 HP
   go_upto_region 12 with fail
   generalize hW:World.setCell wn _ _=WN
   have HP:Hid (Pn R w w.heap.size g (g + 1) WN ⟨{hd 15 ln with nm:=nm},.nil,.nil,zS⟩ s1):=Lib.hid (by rw [← hW]; exact HQ.out.nm _ eH.out)
   clear hW c2 f2 HQ
   clear e0
   have e0:World.cell? _ ⟨g,0,none⟩=some (.int .i64 15):=HP.out.cell (j:=0) rfl
   go_wp2_with fail
   refine (am9.out _ HP.out.rd).mono ?_
   rintro e wn2 ⟨rfl,h2,h3⟩
   have HQ:=Lib.hid (HP.out.then h2 h3)
   have c3:=HQ.out.cell (j:=3) rfl
   have f3:=HQ.out.free 3
   clear h2 h3 HP e0
   go_upto_region 29 with fail
   generalize hW:World.setCell wn2 _ _=WN2
   have HP:Hid (Pn R w w.heap.size g (g + 1) WN2 ⟨{hd 15 ln with nm:=nm,arg:=nm2},.nil,.nil,zS⟩ s2):=Lib.hid (by rw [← hW]; exact HQ.out.arg _ AU.out)
   clear hW c3 f3 HQ
   go_wp2_with fail
   refine (fC R _ _ ⟨#[59]⟩ rfl HP.out.rd).mono ?_
   rintro e w9 ⟨rfl,h2,h3⟩
   have HQ:=Lib.hid (HP.out.then h2 h3)
   clear h2 h3 HP
   have HP:=HQ
   clear HQ
   obtain ⟨⟨y0,y1,y2,y3,y4,y5,y6,y7,y8,y9,dZ⟩,fz⟩:=kC HP.out.z
   have z0:=fz 0
   have z1:=fz 1
   have z2:=fz 2
   have z3:=fz 3
   have z4:=fz 4
   have z5:=fz 5
   have z6:=fz 6
   have z7:=fz 7
   have z8:=fz 8
   have z9:=fz 9
   have jD:=fz 10
   obtain ⟨d0,d1,d2,d3,d4,d5,d6,d7,d8,d9,iJ⟩:=iE HP.out
   clear fz
   go_wp2_with fail
   exact bodyPost_ret (v:=bP _ _ _ _) (by simp [results,Tryz.results118,go_sem,bP,y0,y1,y2,y3,y4,y5,y6,y7,y8,y9,dZ]) rfl (iU HP.out)
  ·rcases h with h | h | h | h | h
   ·rw [h] at HW ⊢
    rw [if_neg (by decide),if_neg (by decide),if_neg (by decide),if_neg (by decide)]
    have cO:Hid (aM 9):=Lib.hid (by unfold aM; decide)
    obtain ⟨q,hq⟩: ∃q,aJ R.ts s.aD=q:=⟨_,rfl⟩
    have eH:Hid ((aJ R.ts s.aD).1.size≤maxLen):=Lib.hid (fZ (by
     intro t ht
     refine HI.out.ts t ?_
     cases s with
     | go r=>exact List.mem_of_mem_tail ht
     | bad n=>exact ht))
    have gI:Hid (∀w,bn w R s.aD→Calls Tryz.prog 83 #[.pointer (some ⟨R.br,0,none⟩)] w (qP R w (aJ R.ts s.aD))):=Lib.hid (fun w h=>gQ R _ w h)
    have eP:Hid ((aJ R.ts s.aD).2.len≤s.aD.len):=Lib.hid (fJ _)
    have jg:Hid (kW (aJ R.ts s.aD).2.toks):=Lib.hid (nX HI.out)
    rw [hq] at eH gI eP jg ⊢
    clear hq
    obtain ⟨nm,s1⟩:=q
    dsimp only at eH eP jg ⊢
    unfold oV
    rw [if_neg (by decide),if_neg (by decide),if_neg (by decide)]
    clear h fD HF aX eP jg
    go_enter Tryz.func118,Tryz.ntmps118
    go_upto_region 1 with fail
    generalize hW:World.alloc w _=W0
    have HB0:Hid (Below w.heap.size w W0):=Lib.hid (by rw [← hW]; exact ah _ _)
    have HZ0:Hid (W0.heap[w.heap.size]? =some (.cells gG 89 (0,0))):=Lib.hid (by rw [← hW]; exact heap_alloc_new _ _)
    clear hW
    go_wp2_with fail
    refine (HW.out _ (HI.out.below HB0.out)).mono ?_
    rintro e w1 ⟨rfl,hb⟩
    have HB1:=Lib.hid (HB0.out.trans (hb.mono HB0.out.size))
    have HZ1:=Lib.hid ((hb.block _ (Array.getElem?_eq_some_iff.1 HZ0.out).1).trans HZ0.out)
    clear hb HB0 HZ0
    go_wp2_with fail
    refine (iY.out _ (HI.out.below HB1.out)).mono ?_
    rintro e w2 ⟨rfl,hb⟩
    have HB2:=Lib.hid (HB1.out.trans (hb.mono HB1.out.size))
    have HZ2:=Lib.hid ((hb.block _ (Array.getElem?_eq_some_iff.1 HZ1.out).1).trans HZ1.out)
    clear hb HB1 HZ1
    go_upto_region 2 with fail
    obtain ⟨g,hg⟩: ∃g,w2.heap.size=g:=⟨_,rfl⟩
    generalize hW:World.alloc w2 _=W3
    have HP:Hid (Pn R w w.heap.size g (g + 1) W3 ⟨hd 9 ln,.nil,.nil,zS⟩ s):=Lib.hid (by
     have hl:=HI.out.lt
     have hzl:=(Array.getElem?_eq_some_iff.1 HZ2.out).1
     rw [← hW,← hg]
     exact ⟨(HI.out.below HB2.out).below (ah _ _),dP (aH HB2.out) _,by omega,by simp,heap_alloc_new _ _,(heap_alloc_old _ _ hzl).trans HZ2.out,lX cO.out HL.out,lW _ _ _ _⟩)
    rw [hg]
    clear hW hg HB2 HZ2
    have e0:World.cell? _ ⟨g,0,none⟩=some (.int .i64 9):=HP.out.cell (j:=0) rfl
    obtain ⟨pos,bad,⟨hp,hp2,hl,hlt,hbr⟩,gU,⟨bL,bK⟩,c0,c1,c2,f1,f2⟩:=HP.out.rd.open
    have HA:=Lib.hid (HP.out.aD c1 iQ.out)
    go_upto_region 5 with fail
    generalize hW:World.setCell _ _ _=WA
    rw [hW] at HA
    clear hW c0 c1 c2 f1 f2 gU hp hp2 hl hlt hbr bL bK HP
    have HP:=HA
    clear HA
    clear e0
    have e0:World.cell? _ ⟨g,0,none⟩=some (.int .i64 9):=HP.out.cell (j:=0) rfl
    go_wp2_with fail
    refine (gI.out _ HP.out.rd).mono ?_
    rintro e wn ⟨rfl,h2,h3⟩
    have HQ:=Lib.hid (HP.out.then h2 h3)
    have c2:=HQ.out.cell (j:=2) rfl
    have f2:=HQ.out.free 2
    clear h2 h3 HP
    go_upto_region 12 with fail
    generalize hW:World.setCell wn _ _=WN
    have HP:Hid (Pn R w w.heap.size g (g + 1) WN ⟨{hd 9 ln with nm:=nm},.nil,.nil,zS⟩ s1):=Lib.hid (by rw [← hW]; exact HQ.out.nm _ eH.out)
    clear hW c2 f2 HQ
    clear e0
    have e0:World.cell? _ ⟨g,0,none⟩=some (.int .i64 9):=HP.out.cell (j:=0) rfl
    go_upto_region 29 with fail
    clear e0
    go_wp2_with fail
    refine (fC R _ _ ⟨#[59]⟩ rfl HP.out.rd).mono ?_
    rintro e w9 ⟨rfl,h2,h3⟩
    have HQ:=Lib.hid (HP.out.then h2 h3)
    clear h2 h3 HP
    have HP:=HQ
    clear HQ
    obtain ⟨⟨y0,y1,y2,y3,y4,y5,y6,y7,y8,y9,dZ⟩,fz⟩:=kC HP.out.z
    have z0:=fz 0
    have z1:=fz 1
    have z2:=fz 2
    have z3:=fz 3
    have z4:=fz 4
    have z5:=fz 5
    have z6:=fz 6
    have z7:=fz 7
    have z8:=fz 8
    have z9:=fz 9
    have jD:=fz 10
    obtain ⟨d0,d1,d2,d3,d4,d5,d6,d7,d8,d9,iJ⟩:=iE HP.out
    clear fz
    go_wp2_with fail
    exact bodyPost_ret (v:=bP _ _ _ _) (by simp [results,Tryz.results118,go_sem,bP,y0,y1,y2,y3,y4,y5,y6,y7,y8,y9,dZ]) rfl (iU HP.out)
   ·rw [h] at HW ⊢
    rw [if_neg (by decide),if_neg (by decide),if_neg (by decide),if_neg (by decide)]
    have cO:Hid (aM 10):=Lib.hid (by unfold aM; decide)
    obtain ⟨q,hq⟩: ∃q,aJ R.ts s.aD=q:=⟨_,rfl⟩
    have eH:Hid ((aJ R.ts s.aD).1.size≤maxLen):=Lib.hid (fZ (by
     intro t ht
     refine HI.out.ts t ?_
     cases s with
     | go r=>exact List.mem_of_mem_tail ht
     | bad n=>exact ht))
    have gI:Hid (∀w,bn w R s.aD→Calls Tryz.prog 83 #[.pointer (some ⟨R.br,0,none⟩)] w (qP R w (aJ R.ts s.aD))):=Lib.hid (fun w h=>gQ R _ w h)
    have eP:Hid ((aJ R.ts s.aD).2.len≤s.aD.len):=Lib.hid (fJ _)
    have jg:Hid (kW (aJ R.ts s.aD).2.toks):=Lib.hid (nX HI.out)
    rw [hq] at eH gI eP jg ⊢
    clear hq
    obtain ⟨nm,s1⟩:=q
    dsimp only at eH eP jg ⊢
    unfold oV
    rw [if_neg (by decide),if_neg (by decide),if_neg (by decide)]
    clear h fD HF aX eP jg
    go_enter Tryz.func118,Tryz.ntmps118
    go_upto_region 1 with fail
    generalize hW:World.alloc w _=W0
    have HB0:Hid (Below w.heap.size w W0):=Lib.hid (by rw [← hW]; exact ah _ _)
    have HZ0:Hid (W0.heap[w.heap.size]? =some (.cells gG 89 (0,0))):=Lib.hid (by rw [← hW]; exact heap_alloc_new _ _)
    clear hW
    go_wp2_with fail
    refine (HW.out _ (HI.out.below HB0.out)).mono ?_
    rintro e w1 ⟨rfl,hb⟩
    have HB1:=Lib.hid (HB0.out.trans (hb.mono HB0.out.size))
    have HZ1:=Lib.hid ((hb.block _ (Array.getElem?_eq_some_iff.1 HZ0.out).1).trans HZ0.out)
    clear hb HB0 HZ0
    go_wp2_with fail
    refine (iY.out _ (HI.out.below HB1.out)).mono ?_
    rintro e w2 ⟨rfl,hb⟩
    have HB2:=Lib.hid (HB1.out.trans (hb.mono HB1.out.size))
    have HZ2:=Lib.hid ((hb.block _ (Array.getElem?_eq_some_iff.1 HZ1.out).1).trans HZ1.out)
    clear hb HB1 HZ1
    go_upto_region 2 with fail
    obtain ⟨g,hg⟩: ∃g,w2.heap.size=g:=⟨_,rfl⟩
    generalize hW:World.alloc w2 _=W3
    have HP:Hid (Pn R w w.heap.size g (g + 1) W3 ⟨hd 10 ln,.nil,.nil,zS⟩ s):=Lib.hid (by
     have hl:=HI.out.lt
     have hzl:=(Array.getElem?_eq_some_iff.1 HZ2.out).1
     rw [← hW,← hg]
     exact ⟨(HI.out.below HB2.out).below (ah _ _),dP (aH HB2.out) _,by omega,by simp,heap_alloc_new _ _,(heap_alloc_old _ _ hzl).trans HZ2.out,lX cO.out HL.out,lW _ _ _ _⟩)
    rw [hg]
    clear hW hg HB2 HZ2
    have e0:World.cell? _ ⟨g,0,none⟩=some (.int .i64 10):=HP.out.cell (j:=0) rfl
    obtain ⟨pos,bad,⟨hp,hp2,hl,hlt,hbr⟩,gU,⟨bL,bK⟩,c0,c1,c2,f1,f2⟩:=HP.out.rd.open
    have HA:=Lib.hid (HP.out.aD c1 iQ.out)
    go_upto_region 5 with fail
    generalize hW:World.setCell _ _ _=WA
    rw [hW] at HA
    clear hW c0 c1 c2 f1 f2 gU hp hp2 hl hlt hbr bL bK HP
    have HP:=HA
    clear HA
    clear e0
    have e0:World.cell? _ ⟨g,0,none⟩=some (.int .i64 10):=HP.out.cell (j:=0) rfl
    go_wp2_with fail
    refine (gI.out _ HP.out.rd).mono ?_
    rintro e wn ⟨rfl,h2,h3⟩
    have HQ:=Lib.hid (HP.out.then h2 h3)
    have c2:=HQ.out.cell (j:=2) rfl
    have f2:=HQ.out.free 2
    clear h2 h3 HP
    go_upto_region 12 with fail
    generalize hW:World.setCell wn _ _=WN
    have HP:Hid (Pn R w w.heap.size g (g + 1) WN ⟨{hd 10 ln with nm:=nm},.nil,.nil,zS⟩ s1):=Lib.hid (by rw [← hW]; exact HQ.out.nm _ eH.out)
    clear hW c2 f2 HQ
    clear e0
    have e0:World.cell? _ ⟨g,0,none⟩=some (.int .i64 10):=HP.out.cell (j:=0) rfl
    go_upto_region 29 with fail
    clear e0
    go_wp2_with fail
    refine (fC R _ _ ⟨#[59]⟩ rfl HP.out.rd).mono ?_
    rintro e w9 ⟨rfl,h2,h3⟩
    have HQ:=Lib.hid (HP.out.then h2 h3)
    clear h2 h3 HP
    have HP:=HQ
    clear HQ
    obtain ⟨⟨y0,y1,y2,y3,y4,y5,y6,y7,y8,y9,dZ⟩,fz⟩:=kC HP.out.z
    have z0:=fz 0
    have z1:=fz 1
    have z2:=fz 2
    have z3:=fz 3
    have z4:=fz 4
    have z5:=fz 5
    have z6:=fz 6
    have z7:=fz 7
    have z8:=fz 8
    have z9:=fz 9
    have jD:=fz 10
    obtain ⟨d0,d1,d2,d3,d4,d5,d6,d7,d8,d9,iJ⟩:=iE HP.out
    clear fz
    go_wp2_with fail
    exact bodyPost_ret (v:=bP _ _ _ _) (by simp [results,Tryz.results118,go_sem,bP,y0,y1,y2,y3,y4,y5,y6,y7,y8,y9,dZ]) rfl (iU HP.out)
   ·rw [h] at HW ⊢
    rw [if_neg (by decide),if_neg (by decide),if_neg (by decide),if_neg (by decide)]
    have cO:Hid (aM 11):=Lib.hid (by unfold aM; decide)
    obtain ⟨q,hq⟩: ∃q,aJ R.ts s.aD=q:=⟨_,rfl⟩
    have eH:Hid ((aJ R.ts s.aD).1.size≤maxLen):=Lib.hid (fZ (by
     intro t ht
     refine HI.out.ts t ?_
     cases s with
     | go r=>exact List.mem_of_mem_tail ht
     | bad n=>exact ht))
    have gI:Hid (∀w,bn w R s.aD→Calls Tryz.prog 83 #[.pointer (some ⟨R.br,0,none⟩)] w (qP R w (aJ R.ts s.aD))):=Lib.hid (fun w h=>gQ R _ w h)
    have eP:Hid ((aJ R.ts s.aD).2.len≤s.aD.len):=Lib.hid (fJ _)
    have jg:Hid (kW (aJ R.ts s.aD).2.toks):=Lib.hid (nX HI.out)
    rw [hq] at eH gI eP jg ⊢
    clear hq
    obtain ⟨nm,s1⟩:=q
    dsimp only at eH eP jg ⊢
    unfold oV
    rw [if_neg (by decide),if_neg (by decide),if_neg (by decide)]
    clear h fD HF aX eP jg
    go_enter Tryz.func118,Tryz.ntmps118
    go_upto_region 1 with fail
    generalize hW:World.alloc w _=W0
    have HB0:Hid (Below w.heap.size w W0):=Lib.hid (by rw [← hW]; exact ah _ _)
    have HZ0:Hid (W0.heap[w.heap.size]? =some (.cells gG 89 (0,0))):=Lib.hid (by rw [← hW]; exact heap_alloc_new _ _)
    clear hW
    go_wp2_with fail
    refine (HW.out _ (HI.out.below HB0.out)).mono ?_
    rintro e w1 ⟨rfl,hb⟩
    have HB1:=Lib.hid (HB0.out.trans (hb.mono HB0.out.size))
    have HZ1:=Lib.hid ((hb.block _ (Array.getElem?_eq_some_iff.1 HZ0.out).1).trans HZ0.out)
    clear hb HB0 HZ0
    go_wp2_with fail
    refine (iY.out _ (HI.out.below HB1.out)).mono ?_
    rintro e w2 ⟨rfl,hb⟩
    have HB2:=Lib.hid (HB1.out.trans (hb.mono HB1.out.size))
    have HZ2:=Lib.hid ((hb.block _ (Array.getElem?_eq_some_iff.1 HZ1.out).1).trans HZ1.out)
    clear hb HB1 HZ1
    go_upto_region 2 with fail
    obtain ⟨g,hg⟩: ∃g,w2.heap.size=g:=⟨_,rfl⟩
    generalize hW:World.alloc w2 _=W3
    have HP:Hid (Pn R w w.heap.size g (g + 1) W3 ⟨hd 11 ln,.nil,.nil,zS⟩ s):=Lib.hid (by
     have hl:=HI.out.lt
     have hzl:=(Array.getElem?_eq_some_iff.1 HZ2.out).1
     rw [← hW,← hg]
     exact ⟨(HI.out.below HB2.out).below (ah _ _),dP (aH HB2.out) _,by omega,by simp,heap_alloc_new _ _,(heap_alloc_old _ _ hzl).trans HZ2.out,lX cO.out HL.out,lW _ _ _ _⟩)
    rw [hg]
    clear hW hg HB2 HZ2
    have e0:World.cell? _ ⟨g,0,none⟩=some (.int .i64 11):=HP.out.cell (j:=0) rfl
    obtain ⟨pos,bad,⟨hp,hp2,hl,hlt,hbr⟩,gU,⟨bL,bK⟩,c0,c1,c2,f1,f2⟩:=HP.out.rd.open
    have HA:=Lib.hid (HP.out.aD c1 iQ.out)
    go_upto_region 5 with fail
    generalize hW:World.setCell _ _ _=WA
    rw [hW] at HA
    clear hW c0 c1 c2 f1 f2 gU hp hp2 hl hlt hbr bL bK HP
    have HP:=HA
    clear HA
    clear e0
    have e0:World.cell? _ ⟨g,0,none⟩=some (.int .i64 11):=HP.out.cell (j:=0) rfl
    go_wp2_with fail
    refine (gI.out _ HP.out.rd).mono ?_
    rintro e wn ⟨rfl,h2,h3⟩
    have HQ:=Lib.hid (HP.out.then h2 h3)
    have c2:=HQ.out.cell (j:=2) rfl
    have f2:=HQ.out.free 2
    clear h2 h3 HP
    go_upto_region 12 with fail
    generalize hW:World.setCell wn _ _=WN
    have HP:Hid (Pn R w w.heap.size g (g + 1) WN ⟨{hd 11 ln with nm:=nm},.nil,.nil,zS⟩ s1):=Lib.hid (by rw [← hW]; exact HQ.out.nm _ eH.out)
    clear hW c2 f2 HQ
    clear e0
    have e0:World.cell? _ ⟨g,0,none⟩=some (.int .i64 11):=HP.out.cell (j:=0) rfl
    go_upto_region 29 with fail
    clear e0
    go_wp2_with fail
    refine (fC R _ _ ⟨#[59]⟩ rfl HP.out.rd).mono ?_
    rintro e w9 ⟨rfl,h2,h3⟩
    have HQ:=Lib.hid (HP.out.then h2 h3)
    clear h2 h3 HP
    have HP:=HQ
    clear HQ
    obtain ⟨⟨y0,y1,y2,y3,y4,y5,y6,y7,y8,y9,dZ⟩,fz⟩:=kC HP.out.z
    have z0:=fz 0
    have z1:=fz 1
    have z2:=fz 2
    have z3:=fz 3
    have z4:=fz 4
    have z5:=fz 5
    have z6:=fz 6
    have z7:=fz 7
    have z8:=fz 8
    have z9:=fz 9
    have jD:=fz 10
    obtain ⟨d0,d1,d2,d3,d4,d5,d6,d7,d8,d9,iJ⟩:=iE HP.out
    clear fz
    go_wp2_with fail
    exact bodyPost_ret (v:=bP _ _ _ _) (by simp [results,Tryz.results118,go_sem,bP,y0,y1,y2,y3,y4,y5,y6,y7,y8,y9,dZ]) rfl (iU HP.out)
   ·rw [h] at HW ⊢
    rw [if_neg (by decide),if_neg (by decide),if_neg (by decide),if_neg (by decide)]
    have cO:Hid (aM 12):=Lib.hid (by unfold aM; decide)
    obtain ⟨q,hq⟩: ∃q,aJ R.ts s.aD=q:=⟨_,rfl⟩
    have eH:Hid ((aJ R.ts s.aD).1.size≤maxLen):=Lib.hid (fZ (by
     intro t ht
     refine HI.out.ts t ?_
     cases s with
     | go r=>exact List.mem_of_mem_tail ht
     | bad n=>exact ht))
    have gI:Hid (∀w,bn w R s.aD→Calls Tryz.prog 83 #[.pointer (some ⟨R.br,0,none⟩)] w (qP R w (aJ R.ts s.aD))):=Lib.hid (fun w h=>gQ R _ w h)
    have eP:Hid ((aJ R.ts s.aD).2.len≤s.aD.len):=Lib.hid (fJ _)
    have jg:Hid (kW (aJ R.ts s.aD).2.toks):=Lib.hid (nX HI.out)
    rw [hq] at eH gI eP jg ⊢
    clear hq
    obtain ⟨nm,s1⟩:=q
    dsimp only at eH eP jg ⊢
    unfold oV
    rw [if_neg (by decide),if_neg (by decide),if_neg (by decide)]
    clear h fD HF aX eP jg
    go_enter Tryz.func118,Tryz.ntmps118
    go_upto_region 1 with fail
    generalize hW:World.alloc w _=W0
    have HB0:Hid (Below w.heap.size w W0):=Lib.hid (by rw [← hW]; exact ah _ _)
    have HZ0:Hid (W0.heap[w.heap.size]? =some (.cells gG 89 (0,0))):=Lib.hid (by rw [← hW]; exact heap_alloc_new _ _)
    clear hW
    go_wp2_with fail
    refine (HW.out _ (HI.out.below HB0.out)).mono ?_
    rintro e w1 ⟨rfl,hb⟩
    have HB1:=Lib.hid (HB0.out.trans (hb.mono HB0.out.size))
    have HZ1:=Lib.hid ((hb.block _ (Array.getElem?_eq_some_iff.1 HZ0.out).1).trans HZ0.out)
    clear hb HB0 HZ0
    go_wp2_with fail
    refine (iY.out _ (HI.out.below HB1.out)).mono ?_
    rintro e w2 ⟨rfl,hb⟩
    have HB2:=Lib.hid (HB1.out.trans (hb.mono HB1.out.size))
    have HZ2:=Lib.hid ((hb.block _ (Array.getElem?_eq_some_iff.1 HZ1.out).1).trans HZ1.out)
    clear hb HB1 HZ1
    go_upto_region 2 with fail
    obtain ⟨g,hg⟩: ∃g,w2.heap.size=g:=⟨_,rfl⟩
    generalize hW:World.alloc w2 _=W3
    have HP:Hid (Pn R w w.heap.size g (g + 1) W3 ⟨hd 12 ln,.nil,.nil,zS⟩ s):=Lib.hid (by
     have hl:=HI.out.lt
     have hzl:=(Array.getElem?_eq_some_iff.1 HZ2.out).1
     rw [← hW,← hg]
     exact ⟨(HI.out.below HB2.out).below (ah _ _),dP (aH HB2.out) _,by omega,by simp,heap_alloc_new _ _,(heap_alloc_old _ _ hzl).trans HZ2.out,lX cO.out HL.out,lW _ _ _ _⟩)
    rw [hg]
    clear hW hg HB2 HZ2
    have e0:World.cell? _ ⟨g,0,none⟩=some (.int .i64 12):=HP.out.cell (j:=0) rfl
    obtain ⟨pos,bad,⟨hp,hp2,hl,hlt,hbr⟩,gU,⟨bL,bK⟩,c0,c1,c2,f1,f2⟩:=HP.out.rd.open
    have HA:=Lib.hid (HP.out.aD c1 iQ.out)
    go_upto_region 5 with fail
    generalize hW:World.setCell _ _ _=WA
    rw [hW] at HA
    clear hW c0 c1 c2 f1 f2 gU hp hp2 hl hlt hbr bL bK HP
    have HP:=HA
    clear HA
    clear e0
    have e0:World.cell? _ ⟨g,0,none⟩=some (.int .i64 12):=HP.out.cell (j:=0) rfl
    go_wp2_with fail
    refine (gI.out _ HP.out.rd).mono ?_
    rintro e wn ⟨rfl,h2,h3⟩
    have HQ:=Lib.hid (HP.out.then h2 h3)
    have c2:=HQ.out.cell (j:=2) rfl
    have f2:=HQ.out.free 2
    clear h2 h3 HP
    go_upto_region 12 with fail
    generalize hW:World.setCell wn _ _=WN
    have HP:Hid (Pn R w w.heap.size g (g + 1) WN ⟨{hd 12 ln with nm:=nm},.nil,.nil,zS⟩ s1):=Lib.hid (by rw [← hW]; exact HQ.out.nm _ eH.out)
    clear hW c2 f2 HQ
    clear e0
    have e0:World.cell? _ ⟨g,0,none⟩=some (.int .i64 12):=HP.out.cell (j:=0) rfl
    go_upto_region 29 with fail
    clear e0
    go_wp2_with fail
    refine (fC R _ _ ⟨#[59]⟩ rfl HP.out.rd).mono ?_
    rintro e w9 ⟨rfl,h2,h3⟩
    have HQ:=Lib.hid (HP.out.then h2 h3)
    clear h2 h3 HP
    have HP:=HQ
    clear HQ
    obtain ⟨⟨y0,y1,y2,y3,y4,y5,y6,y7,y8,y9,dZ⟩,fz⟩:=kC HP.out.z
    have z0:=fz 0
    have z1:=fz 1
    have z2:=fz 2
    have z3:=fz 3
    have z4:=fz 4
    have z5:=fz 5
    have z6:=fz 6
    have z7:=fz 7
    have z8:=fz 8
    have z9:=fz 9
    have jD:=fz 10
    obtain ⟨d0,d1,d2,d3,d4,d5,d6,d7,d8,d9,iJ⟩:=iE HP.out
    clear fz
    go_wp2_with fail
    exact bodyPost_ret (v:=bP _ _ _ _) (by simp [results,Tryz.results118,go_sem,bP,y0,y1,y2,y3,y4,y5,y6,y7,y8,y9,dZ]) rfl (iU HP.out)
   ·rw [h] at HW ⊢
    rw [if_neg (by decide),if_neg (by decide),if_neg (by decide),if_neg (by decide)]
    have cO:Hid (aM 13):=Lib.hid (by unfold aM; decide)
    obtain ⟨q,hq⟩: ∃q,aJ R.ts s.aD=q:=⟨_,rfl⟩
    have eH:Hid ((aJ R.ts s.aD).1.size≤maxLen):=Lib.hid (fZ (by
     intro t ht
     refine HI.out.ts t ?_
     cases s with
     | go r=>exact List.mem_of_mem_tail ht
     | bad n=>exact ht))
    have gI:Hid (∀w,bn w R s.aD→Calls Tryz.prog 83 #[.pointer (some ⟨R.br,0,none⟩)] w (qP R w (aJ R.ts s.aD))):=Lib.hid (fun w h=>gQ R _ w h)
    have eP:Hid ((aJ R.ts s.aD).2.len≤s.aD.len):=Lib.hid (fJ _)
    have jg:Hid (kW (aJ R.ts s.aD).2.toks):=Lib.hid (nX HI.out)
    rw [hq] at eH gI eP jg ⊢
    clear hq
    obtain ⟨nm,s1⟩:=q
    dsimp only at eH eP jg ⊢
    unfold oV
    rw [if_neg (by decide),if_neg (by decide),if_neg (by decide)]
    clear h fD HF aX eP jg
    go_enter Tryz.func118,Tryz.ntmps118
    go_upto_region 1 with fail
    generalize hW:World.alloc w _=W0
    have HB0:Hid (Below w.heap.size w W0):=Lib.hid (by rw [← hW]; exact ah _ _)
    have HZ0:Hid (W0.heap[w.heap.size]? =some (.cells gG 89 (0,0))):=Lib.hid (by rw [← hW]; exact heap_alloc_new _ _)
    clear hW
    go_wp2_with fail
    refine (HW.out _ (HI.out.below HB0.out)).mono ?_
    rintro e w1 ⟨rfl,hb⟩
    have HB1:=Lib.hid (HB0.out.trans (hb.mono HB0.out.size))
    have HZ1:=Lib.hid ((hb.block _ (Array.getElem?_eq_some_iff.1 HZ0.out).1).trans HZ0.out)
    clear hb HB0 HZ0
    go_wp2_with fail
    refine (iY.out _ (HI.out.below HB1.out)).mono ?_
    rintro e w2 ⟨rfl,hb⟩
    have HB2:=Lib.hid (HB1.out.trans (hb.mono HB1.out.size))
    have HZ2:=Lib.hid ((hb.block _ (Array.getElem?_eq_some_iff.1 HZ1.out).1).trans HZ1.out)
    clear hb HB1 HZ1
    go_upto_region 2 with fail
    obtain ⟨g,hg⟩: ∃g,w2.heap.size=g:=⟨_,rfl⟩
    generalize hW:World.alloc w2 _=W3
    have HP:Hid (Pn R w w.heap.size g (g + 1) W3 ⟨hd 13 ln,.nil,.nil,zS⟩ s):=Lib.hid (by
     have hl:=HI.out.lt
     have hzl:=(Array.getElem?_eq_some_iff.1 HZ2.out).1
     rw [← hW,← hg]
     exact ⟨(HI.out.below HB2.out).below (ah _ _),dP (aH HB2.out) _,by omega,by simp,heap_alloc_new _ _,(heap_alloc_old _ _ hzl).trans HZ2.out,lX cO.out HL.out,lW _ _ _ _⟩)
    rw [hg]
    clear hW hg HB2 HZ2
    have e0:World.cell? _ ⟨g,0,none⟩=some (.int .i64 13):=HP.out.cell (j:=0) rfl
    obtain ⟨pos,bad,⟨hp,hp2,hl,hlt,hbr⟩,gU,⟨bL,bK⟩,c0,c1,c2,f1,f2⟩:=HP.out.rd.open
    have HA:=Lib.hid (HP.out.aD c1 iQ.out)
    go_upto_region 5 with fail
    generalize hW:World.setCell _ _ _=WA
    rw [hW] at HA
    clear hW c0 c1 c2 f1 f2 gU hp hp2 hl hlt hbr bL bK HP
    have HP:=HA
    clear HA
    clear e0
    have e0:World.cell? _ ⟨g,0,none⟩=some (.int .i64 13):=HP.out.cell (j:=0) rfl
    go_wp2_with fail
    refine (gI.out _ HP.out.rd).mono ?_
    rintro e wn ⟨rfl,h2,h3⟩
    have HQ:=Lib.hid (HP.out.then h2 h3)
    have c2:=HQ.out.cell (j:=2) rfl
    have f2:=HQ.out.free 2
    clear h2 h3 HP
    go_upto_region 12 with fail
    generalize hW:World.setCell wn _ _=WN
    have HP:Hid (Pn R w w.heap.size g (g + 1) WN ⟨{hd 13 ln with nm:=nm},.nil,.nil,zS⟩ s1):=Lib.hid (by rw [← hW]; exact HQ.out.nm _ eH.out)
    clear hW c2 f2 HQ
    clear e0
    have e0:World.cell? _ ⟨g,0,none⟩=some (.int .i64 13):=HP.out.cell (j:=0) rfl
    go_upto_region 29 with fail
    clear e0
    go_wp2_with fail
    refine (fC R _ _ ⟨#[59]⟩ rfl HP.out.rd).mono ?_
    rintro e w9 ⟨rfl,h2,h3⟩
    have HQ:=Lib.hid (HP.out.then h2 h3)
    clear h2 h3 HP
    have HP:=HQ
    clear HQ
    obtain ⟨⟨y0,y1,y2,y3,y4,y5,y6,y7,y8,y9,dZ⟩,fz⟩:=kC HP.out.z
    have z0:=fz 0
    have z1:=fz 1
    have z2:=fz 2
    have z3:=fz 3
    have z4:=fz 4
    have z5:=fz 5
    have z6:=fz 6
    have z7:=fz 7
    have z8:=fz 8
    have z9:=fz 9
    have jD:=fz 10
    obtain ⟨d0,d1,d2,d3,d4,d5,d6,d7,d8,d9,iJ⟩:=iE HP.out
    clear fz
    go_wp2_with fail
    exact bodyPost_ret (v:=bP _ _ _ _) (by simp [results,Tryz.results118,go_sem,bP,y0,y1,y2,y3,y4,y5,y6,y7,y8,y9,dZ]) rfl (iU HP.out)
end Go.Proofs.YtehnipchbmjlhaaGreatDoor
end
