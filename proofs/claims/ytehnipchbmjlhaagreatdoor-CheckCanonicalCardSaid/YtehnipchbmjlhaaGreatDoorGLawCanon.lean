/-
  The walk of the law CheckCanonical.
-/
import Derived.Test.YtehnipchbmjlhaaGreatDoorGRE
import Derived.Test.YtehnipchbmjlhaaGreatDoorGFC
import Derived.Test.YtehnipchbmjlhaaGreatDoorGMS
import Derived.Test.YtehnipchbmjlhaaGreatDoorGXC
import Derived.Test.YtehnipchbmjlhaaGreatDoorGLawPTexts
import Derived.Test.YtehnipchbmjlhaaGreatDoorGMdLine
import Derived.Test.YtehnipchbmjlhaaGreatDoorGML
set_option linter.unusedSimpArgs false
set_option linter.unusedVariables false
set_option maxHeartbeats 40000000
set_option maxRecDepth 1000000
namespace Go.Proofs.YtehnipchbmjlhaaGreatDoor
open Go.RowKit
open Md Pz Fm
theorem BX (w:World) (cZ:cO w):
 Calls Tryz.prog 24 #[] w fun e w'=>e= .returned (.bool true)∧Below w.heap.size w w':=by
 go_enter Tryz.func24,Tryz.ntmps24
 go_wp2_with fail
 refine (xg ⟨[],[]⟩ w none none 0 0 ⟨by simp,by simp,trivial,trivial⟩ cZ).mono ?_
 rintro e w1 ⟨rfl,hb1⟩
 have h1:(rU ⟨[],[]⟩).1=3:=rfl
 have h2:(rU ⟨[],[]⟩).2=0:=rfl
 rw [h1,h2]
 go_wp2_with fail
 go_ret
 exact ⟨rfl,hb1⟩
theorem zI (ao:Option Addr) (len cap:Nat) (zs:List Int) (hlen:zs.length=len) (hcap:len≤maxLen) (w:World) (hz:Fq w w.heap.size zs ao) (cZ:cO w) (hpw:jU w):
 Calls Tryz.prog 8 #[.slice ao len cap] w fun e w'=>e= .returned (.bool true)∧Below w.heap.size w w':=by
 subst hlen
 have HZ:=Lib.hid hz
 have ig:=Lib.hid cZ
 have iR:=Lib.hid hpw
 unfold maxLen at hcap
 clear hz cZ hpw
 by_cases as6:300 < zs.length
 ·go_enter Tryz.func8,Tryz.ntmps8
  go_wp2_with fail
  go_ret
  exact ⟨rfl,Below.refl _ _⟩
 ·go_enter Tryz.func8,Tryz.ntmps8
  go_wp2_with fail
  refine (MI w zs ao cap HZ.out (by omega)).mono ?_
  rintro e w1 ⟨p,aH,aI,aC,aD,rfl,hp,Tc,Tj,⟨hsh,hth,hwt⟩,hb⟩
  have HP:=Lib.hid hp
  have HB:=Lib.hid hb
  have uR:=Lib.hid hsh
  have HF:Hid (Rl p):=Lib.hid ⟨hsh,hth,hwt.1,hwt.2⟩
  have HCK:=Lib.hid (fun w at' hk=>xg p w aH aI aC aD at' hk)
  clear hp Tc Tj hb hsh hth hwt
  go_upto_region 4 with fail
  have HX:=Lib.hid ((Sit.start w1).zf (n:=w1.heap.size) rfl (.slice aH p.ds.length aC) (.slice aI p.ts.length aD) 26)
  generalize hW:World.alloc w1 _=W
  rw [hW] at HX
  clear hW
  obtain ⟨-,⟨-,c0⟩,⟨-,c1⟩,-⟩:=HX.out
  have HB1:=Lib.hid (HB.out.trans (HX.out.1.mono HB.out.size))
  have HFP:=Lib.hid (Ig p W aH aI aC aD (HP.out.same HX.out.1) HF.out (iR.out.next HB1.out))
  have GX:Hid ((tl (sM p)).length≤4096→parse (tl (sM p))=(vP p,0,0)):=Lib.hid (fun h=>round uR.out (Uy HP.out) h)
  have AL:Hid ((sM p).size=(tl (sM p)).length):=Lib.hid (Lib.size_eq _)
  have Bz:=Lib.hid (fun w hk hm=>Od (sM p) w hk hm)
  rw [show (sM p).data.toList=tl (sM p) from rfl] at Bz
  generalize sM p=s at *
  go_wp2_with fail
  refine HFP.out.mono ?_
  rintro e w2 ⟨rfl,hb2⟩
  have HY:=Lib.hid (HX.out.next hb2)
  have HB2:=Lib.hid (HB.out.trans (HY.out.1.mono HB.out.size))
  clear hb2 c0 c1 HX HFP
  by_cases hbig:4096 < s.size
  ·go_wp2_with fail
   refine (BX _ (ig.out.same HB2.out)).mono ?_
   rintro e w5 ⟨rfl,hb⟩
   go_wp2_with fail
   go_ret
   exact ⟨rfl,HB2.out.trans (hb.mono HB2.out.size)⟩
  ·have Tn:=Lib.hid (GX.out (by have:=AL.out; omega))
   have XZ:=Lib.hid (Bz.out w2 (ig.out.same HB2.out) (by unfold maxLen; omega))
   rw [Tn.out] at XZ
   clear Bz GX Tn AL
   go_wp2_with fail
   refine XZ.out.mono ?_
   rintro e w3 ⟨L9,Mv,M5,Ms,rfl,hl,hat,hb3,-⟩
   have HL:=Lib.hid hl
   have QJ:=Lib.hid hat
   have HV:=Lib.hid (HY.out.next hb3)
   clear hl hat hb3 XZ HY
   dsimp only at HL QJ ⊢
   go_upto_region 8 with fail
   have HU:=Lib.hid (HV.out.zf (n:=w3.heap.size) rfl (.slice L9 (vP p).ds.length Mv) (.slice M5 (vP p).ts.length Ms) 26)
   have Je:Hid (∀W,w3.alloc (.cells #[.slice L9 (vP p).ds.length Mv,.slice M5 (vP p).ts.length Ms] 26)=W→p.At W aH aI∧(vP p).At W L9 M5):=Lib.hid (fun W hW=>by
    subst hW
    exact ⟨HP.out.same HU.out.1,Nat.le_trans HL.out.1 (by unfold maxLen; decide),Nat.le_trans HL.out.2.1 (by unfold maxLen; decide),QJ.out.1.same (ah _ _),QJ.out.2.same (ah _ _)⟩)
   generalize hW:World.alloc w3 _=W3
   rw [hW] at HU
   have HA:=Lib.hid (Je.out _ hW)
   clear hW Je HV
   have ak0:Hid ((rU (vP p)).1=(rU p).1):=Lib.hid (Qg (XH p))
   have VA:=Lib.hid (fun w at' hk=>xg (vP p) w L9 M5 Mv Ms at' hk)
   generalize rU p=r1 at *
   generalize rU (vP p)=r2 at *
   have HB3:=Lib.hid (HB.out.trans (HU.out.1.mono HB.out.size))
   obtain ⟨-,⟨-,c0⟩,⟨-,c1⟩,⟨-,c2⟩,⟨-,c3⟩,-⟩:=HU.out
   go_wp2_with fail
   refine (HCK.out _ HA.out.1 (ig.out.same HB3.out)).mono ?_
   rintro e w4 ⟨rfl,hb4⟩
   have HT:=Lib.hid (HU.out.next hb4)
   have XV:=Lib.hid (HA.out.2.same hb4)
   have gy:=Lib.hid (HB3.out.trans (hb4.mono HB3.out.size))
   clear hb4 c0 c1 c2 c3 HU HA HB3 HCK
   obtain ⟨-,⟨-,c0⟩,⟨-,c1⟩,⟨-,c2⟩,⟨-,c3⟩,-⟩:=HT.out
   go_wp2_with fail
   refine (VA.out _ XV.out (ig.out.same gy.out)).mono ?_
   rintro e w5 ⟨rfl,hb5⟩
   have jE:=Lib.hid (gy.out.trans (hb5.mono gy.out.size))
   have heq:=ak0.out
   rw [heq]
   clear hb5 c0 c1 c2 c3 HT XV gy VA heq
   go_wp2_with fail
   refine (BX _ (ig.out.same jE.out)).mono ?_
   rintro e w6 ⟨rfl,hb⟩
   go_wp2_with fail
   go_ret
   exact ⟨rfl,jE.out.trans (hb.mono jE.out.size)⟩
end Go.Proofs.YtehnipchbmjlhaaGreatDoor
