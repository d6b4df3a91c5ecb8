/-
  The walk of the law ParseExprSpoilt.
-/
import Derived.Test.YtehnipchbmjlhaaGreatDoorGRG
import Derived.Test.YtehnipchbmjlhaaGreatDoorGRfF
import Derived.Test.YtehnipchbmjlhaaGreatDoorGSM
import Derived.Test.YtehnipchbmjlhaaGreatDoorGFA
import Derived.Test.YtehnipchbmjlhaaGreatDoorGMdMk9
import Derived.Test.YtehnipchbmjlhaaGreatDoorGScSpoil
set_option linter.unusedSimpArgs false
set_option linter.unusedVariables false
namespace Go.Proofs.YtehnipchbmjlhaaGreatDoor
open Go.RowKit
open Md Pz Fm
set_option maxHeartbeats 4000000 in
set_option maxRecDepth 100000 in
theorem zA (ao:Option Addr) (len cap:Nat) (zs:List Int) (hlen:zs.length=len) (hcap:len≤maxLen) (a:Int) (wa:(Lit.int .u16 a).wf=true) (h:Int) (wh:(Lit.int .u16 h).wf=true) (c:Int) (wc:(Lit.int .u8 c).wf=true) (whole:Bool) (w:World) (hz:Ac w w.heap.size zs ao) (iH:dL w) (hpw:iM w):
 Calls Tryz.prog 6 #[.slice ao len cap,.int .u16 a,.int .u16 h,.int .u8 c,.bool whole] w fun e w'=>e= .returned (.bool true)∧Below w.heap.size w w':=by
 subst hlen
 have HZ:=Lib.hid hz
 have kQ:=Lib.hid iH
 have iD:=Lib.hid hpw
 have K3:=Lib.hid (And.intro (bounds_u16 wa) (bounds_u16 wh))
 unfold maxLen at hcap
 clear hz iH hpw wa wh wc
 by_cases ao9:300 < zs.length
 ·go_enter Tryz.func6,Tryz.ntmps6
  go_wp2_with fail
  go_ret
  exact ⟨rfl,Below.refl _ _⟩
 ·go_enter Tryz.func6,Tryz.ntmps6
  go_wp2_with fail
  refine (G5 w zs ao cap HZ.out (by omega)).mono ?_
  rintro e w1 ⟨op,n,nm,kids,yx,qZ,rfl,⟨hok,hsh,hwt⟩,hat,hb⟩
  have HB1:=Lib.hid hb
  have NP:=Lib.hid (wM op n nm kids w1 yx qZ hok hsh (Nat.le_trans hwt (by decide)) hat (iD.out.next hb))
  have iZ:=Lib.hid (Nat.le_trans (jc op n nm hok.2.1 hat) hwt)
  generalize bf op n nm kids=s at *
  clear hb hok hsh hwt hat
  unfold exV
  go_wp2_with fail
  refine NP.out.mono ?_
  rintro e w2 ⟨rfl,hb2⟩
  have HB2:=Lib.hid (HB1.out.trans (hb2.mono HB1.out.size))
  have HS:Hid (s.size≤20000):=Lib.hid (Nat.le_trans iZ.out (by decide))
  clear hb2 NP HB1 iZ
  go_upto_if 25 with fail
  go_cut [11] (fun v W=> ∃t:ByteArray,v= .string t∧t.size≤50000∧Below w.heap.size w W)
  case first=>
   cases whole
   ·go_wp2_with fail
    refine (Ou s (by have:=HS.out; omega) a h c K3.out.1.1 K3.out.1.2 K3.out.2.1 K3.out.2.2 _).mono ?_
    rintro e w3 ⟨t,rfl,ht,hb⟩
    have HT:Hid (t.size≤50000):=Lib.hid (by have:=HS.out; omega)
    have HB3:=Lib.hid (HB2.out.trans (hb.mono HB2.out.size))
    clear ht hb
    go_wp2_with fail
    go_meet
    exact ⟨t,rfl,HT.out,HB3.out⟩
   ·go_wp2_with fail
    go_meet
    exact ⟨s,rfl,by have:=HS.out; omega,HB2.out⟩
  obtain ⟨t,rfl,ht,hbc⟩:=hcut
  obtain ⟨wa,rfl⟩: ∃W:World,W=wc:=⟨_,rfl⟩
  have HB0:=Lib.hid hbc
  have HT:=Lib.hid ht
  have HP:=Lib.hid (yY t wa (kQ.out.same hbc) (Nat.le_trans ht (by unfold maxLen; decide)))
  have HR:=Lib.hid (fun w=>Ko t w (Nat.le_trans ht (by unfold maxLen; decide)))
  generalize dV t.data.toList=res at *
  obtain ⟨x,er,ln⟩:=res
  clear ht hbc HS HB2
  go_wp2_with fail
  refine HP.out.mono ?_
  rintro e w1 ⟨ao,cap,rfl,hok,hat,hb⟩
  have fH:=Lib.hid hok
  have HAT:=Lib.hid hat
  have HB:=Lib.hid (HB0.out.trans (hb.mono HB0.out.size))
  clear hok hat hb HP
  unfold exV
  go_upto_region 7 with fail
  have HE:=Lib.hid ((Sit.start w1).qz (n:=w1.heap.size) rfl (.int .i64 x.op) (.int .i64 x.n) (.string x.nm) (.slice ao x.kids.len cap) 45)
  generalize hW:World.alloc w1 _=W1
  rw [hW] at HE
  clear hW
  go_wp2_with fail
  refine (HR.out _).mono ?_
  rintro e w2 ⟨kC,cap2,rfl,hok,hat,hb⟩
  have qE:=Lib.hid hat
  have HE2:=Lib.hid (HE.out.next hb)
  clear hok hat hb HR HE
  unfold exV
  go_upto_region 8 with fail
  have gD:=Lib.hid (HE2.out.qz (n:=w2.heap.size) rfl (.int .i64 x.op) (.int .i64 x.n) (.string x.nm) (.slice kC x.kids.len cap2) 45)
  have yC:Hid (∀W,w2.alloc (.cells #[.int .i64 x.op,.int .i64 x.n,.string x.nm,.slice kC x.kids.len cap2] 45)=W→x.kids.At W W.heap.size ao 0∧x.kids.At W W.heap.size kC 0):=Lib.hid (fun W hW=>by
   subst hW
   exact ⟨HAT.out.same gD.out.1,qE.out.same (ah _ _)⟩)
  generalize hW:World.alloc w2 _=W3
  rw [hW] at gD
  have HA:=Lib.hid (yC.out _ hW)
  clear hW yC HE2
  obtain ⟨-,⟨-,c0⟩,⟨-,c1⟩,⟨-,c2⟩,⟨-,c3⟩,⟨-,c4⟩,⟨-,c5⟩,⟨-,c6⟩,⟨-,c7⟩,-⟩:=gD.out
  go_wp2_with fail
  refine (nX _ _ _ _ _ ao cap kC cap2 fH.out HA.out.1 HA.out.2).mono ?_
  rintro e w4 ⟨rfl,hb⟩
  have dN:=Lib.hid ((HB.out.trans (gD.out.1.mono HB.out.size)).trans (hb.mono (Nat.le_trans HB.out.size gD.out.1.size)))
  clear hb c0 c1 c2 c3 c4 c5 c6 c7 gD HA HAT qE fH HB
  go_wp2_with fail
  refine (AP _ (kQ.out.same dN.out)).mono ?_
  rintro e w5 ⟨rfl,hb⟩
  go_wp2_with fail
  go_ret
  exact ⟨rfl,dN.out.trans (hb.mono dN.out.size)⟩
end Go.Proofs.YtehnipchbmjlhaaGreatDoor
