/-
  The walk of the law ParseParentheses.
-/
import Derived.Test.YtehnipchbmjlhaaGreatDoorGRG
import Derived.Test.YtehnipchbmjlhaaGreatDoorGSM
import Derived.Test.YtehnipchbmjlhaaGreatDoorGFA
import Derived.Test.YtehnipchbmjlhaaGreatDoorGMdMk9
import Derived.Test.YtehnipchbmjlhaaGreatDoorGPzPar
set_option linter.unusedSimpArgs false
set_option linter.unusedVariables false
namespace Go.Proofs.YtehnipchbmjlhaaGreatDoor
open Go.RowKit
open Md Pz Fm
set_option maxHeartbeats 4000000 in
set_option maxRecDepth 100000 in
theorem yK (ao:Option Addr) (len cap:Nat) (zs:List Int) (hlen:zs.length=len) (hcap:len≤maxLen) (w:World) (hz:Ac w w.heap.size zs ao) (iH:dL w) (hpw:iM w):
 Calls Tryz.prog 7 #[.slice ao len cap] w fun e w'=>e= .returned (.bool true)∧Below w.heap.size w w':=by
 subst hlen
 have HZ:=Lib.hid hz
 have kQ:=Lib.hid iH
 have iD:=Lib.hid hpw
 unfold maxLen at hcap
 clear hz iH hpw
 go_enter Tryz.func7,Tryz.ntmps7
 go_wp2_with fail
 refine (G5 w zs ao cap HZ.out (by omega)).mono ?_
 rintro e w1 ⟨op,n,nm,kids,yx,qZ,rfl,⟨hok,hsh,hwt⟩,hat,hb⟩
 have HB1:=Lib.hid hb
 have NP:=Lib.hid (wM op n nm kids w1 yx qZ hok hsh (Nat.le_trans hwt (by decide)) hat (iD.out.next hb))
 have iZ:=Lib.hid (Nat.le_trans (jc op n nm hok.2.1 hat) hwt)
 generalize bf op n nm kids=s at *
 clear hb hok hsh hwt hat
 unfold exV
 go_wp2_with fail
 refine NP.out.mono ?_
 rintro e w2 ⟨rfl,hb2⟩
 have HB2:=Lib.hid (HB1.out.trans (hb2.mono HB1.out.size))
 clear hb2 NP HB1 iZ
 by_cases hbig:1000 < s.size
 ·go_wp2_with fail
  go_ret
  exact ⟨rfl,HB2.out⟩
 ·have hm:s.size≤maxLen:=by unfold maxLen; omega
  have HP:=Lib.hid (yY s w2 (kQ.out.same HB2.out) hm)
  have HL:Hid (s.data.toList.length≤4000):=Lib.hid (by rw [← Lib.size_eq]; omega)
  obtain ⟨s2,HS2⟩: ∃s2:ByteArray,Hid (s2=(⟨#[40]⟩++s)++⟨#[10,41]⟩):=⟨_,Lib.hid rfl⟩
  have HM2:Hid (s2.size≤maxLen∧((⟨#[40]⟩:ByteArray)++s).size≤2000):=Lib.hid (by
   have e1:(⟨#[40]⟩:ByteArray).size=1:=rfl
   have e2:(⟨#[10,41]⟩:ByteArray).size=2:=rfl
   rw [HS2.out]
   simp only [ByteArray.size_append,e1,e2]; unfold maxLen; omega)
  have aP:=Lib.hid (fun w hk=>yY s2 w hk HM2.out.1)
  have HE2:Hid (s2.data.toList=40 ::(s.data.toList++[10,41])):=Lib.hid (by rw [HS2.out]; simp)
  have Yk:Hid ((dV s.data.toList).2.1=0→dV s2.data.toList=((dV s.data.toList).1,0,0)):=Lib.hid (fun h=>by rw [HE2.out]; exact paren HL.out h)
  clear HE2 HL
  generalize dV s.data.toList=res at *
  generalize dV s2.data.toList=res2 at *
  obtain ⟨x,er,ln⟩:=res
  go_wp2_with fail
  refine HP.out.mono ?_
  rintro e w3 ⟨ao,cap,rfl,hok,hat,hb⟩
  have fH:=Lib.hid hok
  have HAT:=Lib.hid hat
  have HB:=Lib.hid (HB2.out.trans (hb.mono HB2.out.size))
  clear hok hat hb HP
  unfold exV
  go_upto_region 5 with fail
  have HE:=Lib.hid ((Sit.start w3).qz (n:=w3.heap.size) rfl (.int .i64 x.op) (.int .i64 x.n) (.string x.nm) (.slice ao x.kids.len cap) 45)
  generalize hW:World.alloc w3 _=W1
  rw [hW] at HE
  clear hW
  by_cases her:er=0
  ·have hr2:=Yk.out her
   subst her
   rw [hr2] at aP
   have Xe:((⟨#[40]⟩:ByteArray)++s).size≤2000:=HM2.out.2
   have hsz:s.size≤1000:=by omega
   have hs2:=HS2.out
   go_wp2_with fail
   rw [← hs2]
   refine (aP.out _ (kQ.out.same (HB.out.trans (HE.out.1.mono HB.out.size)))).mono ?_
   rintro e w4 ⟨kC,cap2,rfl,hok,hat,hb⟩
   have qE:=Lib.hid hat
   have HE2:=Lib.hid (HE.out.next hb)
   clear hok hat hb HE aP hs2 hsz Xe
   unfold exV
   go_upto_region 8 with fail
   have gD:=Lib.hid (HE2.out.qz (n:=w4.heap.size) rfl (.int .i64 x.op) (.int .i64 x.n) (.string x.nm) (.slice kC x.kids.len cap2) 45)
   have yC:Hid (∀W,w4.alloc (.cells #[.int .i64 x.op,.int .i64 x.n,.string x.nm,.slice kC x.kids.len cap2] 45)=W→x.kids.At W W.heap.size ao 0∧x.kids.At W W.heap.size kC 0):=Lib.hid (fun W hW=>by
    subst hW
    exact ⟨HAT.out.same gD.out.1,qE.out.same (ah _ _)⟩)
   generalize hW:World.alloc w4 _=W3
   rw [hW] at gD
   have HA:=Lib.hid (yC.out _ hW)
   clear hW yC HE2
   obtain ⟨-,⟨-,c0⟩,⟨-,c1⟩,⟨-,c2⟩,⟨-,c3⟩,⟨-,c4⟩,⟨-,c5⟩,⟨-,c6⟩,⟨-,c7⟩,-⟩:=gD.out
   go_wp2_with fail
   refine (nX _ _ _ _ _ ao cap kC cap2 fH.out HA.out.1 HA.out.2).mono ?_
   rintro e w5 ⟨rfl,hb⟩
   have dN:=Lib.hid ((HB.out.trans (gD.out.1.mono HB.out.size)).trans (hb.mono (Nat.le_trans HB.out.size gD.out.1.size)))
   clear hb c0 c1 c2 c3 c4 c5 c6 c7 gD HA HAT qE fH HB
   go_wp2_with fail
   refine (AP _ (kQ.out.same dN.out)).mono ?_
   rintro e w6 ⟨rfl,hb⟩
   go_wp2_with fail
   go_ret
   exact ⟨rfl,dN.out.trans (hb.mono dN.out.size)⟩
  ·have dN:=Lib.hid (HB.out.trans (HE.out.1.mono HB.out.size))
   have hne:(er == 0)=false:=by rw [beq_eq_false_iff_ne]; exact her
   clear Yk HE aP
   go_wp2_with fail
   refine (AP _ (kQ.out.same dN.out)).mono ?_
   rintro e w6 ⟨rfl,hb⟩
   go_wp2_with fail
   go_ret
   exact ⟨rfl,dN.out.trans (hb.mono dN.out.size)⟩
end Go.Proofs.YtehnipchbmjlhaaGreatDoor
