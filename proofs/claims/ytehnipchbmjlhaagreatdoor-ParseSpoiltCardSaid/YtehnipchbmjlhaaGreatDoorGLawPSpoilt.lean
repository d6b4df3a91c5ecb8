/-
  The walk of the law ParseSpoilt.
-/
import Derived.Test.YtehnipchbmjlhaaGreatDoorGRG
import Derived.Test.YtehnipchbmjlhaaGreatDoorGUH
import Derived.Test.YtehnipchbmjlhaaGreatDoorGSM
import Derived.Test.YtehnipchbmjlhaaGreatDoorGFC
import Derived.Test.YtehnipchbmjlhaaGreatDoorGMS
import Derived.Test.YtehnipchbmjlhaaGreatDoorGScSpoil
set_option linter.unusedSimpArgs false
set_option linter.unusedVariables false
set_option maxHeartbeats 40000000
set_option maxRecDepth 1000000
namespace Go.Proofs.YtehnipchbmjlhaaGreatDoor
open Go.RowKit
open Md Pz Fm
theorem zU {n:Nat} (h:n≤4096):n≤maxLen:=Nat.le_trans h (by unfold maxLen; decide)
theorem Db (ao:Option Addr) (len cap:Nat) (zs:List Int) (hlen:zs.length=len) (hcap:len≤maxLen) (a:Int) (wa:(Lit.int .u16 a).wf=true) (h:Int) (wh:(Lit.int .u16 h).wf=true) (c:Int) (wc:(Lit.int .u8 c).wf=true) (w:World) (hz:GY w w.heap.size zs ao) (jJ:eT w) (hpw:kQ w):
 Calls Tryz.prog 5 #[.slice ao len cap,.int .u16 a,.int .u16 h,.int .u8 c] w fun e w'=>e= .returned (.bool true)∧Below w.heap.size w w':=by
 subst hlen
 have HZ:=Lib.hid hz
 have oq:=Lib.hid jJ
 have jr:=Lib.hid hpw
 have Jb:=Lib.hid (And.intro (bounds_u16 wa) (bounds_u16 wh))
 unfold maxLen at hcap
 clear hz jJ hpw wa wh wc
 by_cases aw8:300 < zs.length
 ·go_enter Tryz.func5,Tryz.ntmps5
  go_wp2_with fail
  go_ret
  exact ⟨rfl,Below.refl _ _⟩
 ·go_enter Tryz.func5,Tryz.ntmps5
  go_wp2_with fail
  refine (Qk w zs ao cap HZ.out (by omega)).mono ?_
  rintro e w1 ⟨p,bY,dV,bM,bW,rfl,hp,Ii,Kh,⟨hsh,hth,hwt⟩,hb⟩
  have HB1:=Lib.hid hb
  have HF:Hid (RS p):=Lib.hid ⟨hsh,hth,hwt.1,hwt.2⟩
  have iD:=Lib.hid (Ka hp HF.out)
  have HFX:=Lib.hid (Ie p w1 bY dV bM bW hp HF.out (jr.out.next hb))
  generalize Q7 p=s at *
  clear hb hsh hth hwt hp Ii Kh HF
  go_wp2_with fail
  refine HFX.out.mono ?_
  rintro e w2 ⟨rfl,hb2⟩
  have HB2:=Lib.hid (HB1.out.trans (hb2.mono HB1.out.size))
  clear hb2 HFX HB1
  go_wp2_with fail
  refine (O1 s iD.out a h c Jb.out.1.1 Jb.out.1.2 Jb.out.2.1 Jb.out.2.2 _).mono ?_
  rintro e w3 ⟨t,rfl,ht,hb⟩
  have HT:Hid (t.size≤maxLen):=Lib.hid (by have:=iD.out; unfold maxLen; omega)
  have HB3:=Lib.hid (HB2.out.trans (hb.mono HB2.out.size))
  have HP:=Lib.hid (Gd t w3 (oq.out.same HB3.out) HT.out)
  have HR:=Lib.hid (fun w=>IC t w HT.out)
  generalize parse t.data.toList=res at *
  obtain ⟨p,er,ln⟩:=res
  clear ht hb HB2 iD
  go_wp2_with fail
  refine HP.out.mono ?_
  rintro e w1 ⟨bY,bM,dV,bW,rfl,hl,hat,hb,-⟩
  have HL:=Lib.hid hl
  have HAT:=Lib.hid hat
  have HB:=Lib.hid (HB3.out.trans (hb.mono HB3.out.size))
  clear hl hat hb HP
  dsimp only at HL HAT ⊢
  go_upto_region 5 with fail
  have HE:=Lib.hid ((Sit.start w1).FH (n:=w1.heap.size) rfl (.slice bY p.ds.length bM) (.slice dV p.ts.length bW) 26)
  generalize hW:World.alloc w1 _=W1
  rw [hW] at HE
  clear hW
  go_wp2_with fail
  refine (HR.out _).mono ?_
  rintro e w2 ⟨Nv,NA,MU,NQ,rfl,hl,hat,hb,-⟩
  have AV:=Lib.hid hat
  have HE2:=Lib.hid (HE.out.next hb)
  clear hl hat hb HR HE
  dsimp only at AV ⊢
  go_upto_region 6 with fail
  have iI:=Lib.hid (HE2.out.FH (n:=w2.heap.size) rfl (.slice Nv p.ds.length NA) (.slice MU p.ts.length NQ) 26)
  have IY:Hid (∀W,w2.alloc (.cells #[.slice Nv p.ds.length NA,.slice MU p.ts.length NQ] 26)=W→p.At W bY dV∧p.At W Nv MU):=Lib.hid (fun W hW=>by
   subst hW
   exact ⟨⟨zU HL.out.1,zU HL.out.2.1,HAT.out.1.same iI.out.1,HAT.out.2.same iI.out.1⟩,zU HL.out.1,zU HL.out.2.1,AV.out.1.same (ah _ _),AV.out.2.same (ah _ _)⟩)
  generalize hW:World.alloc w2 _=W3
  rw [hW] at iI
  have HA:=Lib.hid (IY.out _ hW)
  clear hW IY HE2
  obtain ⟨-,⟨-,c0⟩,⟨-,c1⟩,⟨-,c2⟩,⟨-,c3⟩,-⟩:=iI.out
  go_wp2_with fail
  refine (Rt p p true _ bY dV bM bW Nv MU NA NQ (Pr.uf.refl p) HA.out.1 HA.out.2).mono ?_
  rintro e w4 ⟨rfl,hb⟩
  have dh:=Lib.hid ((HB.out.trans (iI.out.1.mono HB.out.size)).trans (hb.mono (Nat.le_trans HB.out.size iI.out.1.size)))
  clear hb c0 c1 c2 c3 iI HA HAT AV HL HB
  go_wp2_with fail
  refine (QX _ (oq.out.same dh.out)).mono ?_
  rintro e w5 ⟨rfl,hb⟩
  go_wp2_with fail
  go_ret
  exact ⟨rfl,dh.out.trans (hb.mono dh.out.size)⟩
end Go.Proofs.YtehnipchbmjlhaaGreatDoor
