/-
  The walk of the law ParseParentheses.
-/
import Derived.Test.YtehnipchbmjlhaaGreatDoorGRG
import Derived.Test.YtehnipchbmjlhaaGreatDoorGSM
import Derived.Test.YtehnipchbmjlhaaGreatDoorGFA
import Derived.Test.YtehnipchbmjlhaaGreatDoorGMdMk9
import Derived.Test.YtehnipchbmjlhaaGreatDoorGPzPar
set_option linter.unusedSimpArgs false
set_option linter.unusedVariables false
namespace Go.Proofs.YtehnipchbmjlhaaGreatDoor
open Go.RowKit
open Md Pz Fm
set_option maxHeartbeats 4000000 in
set_option maxRecDepth 100000 in
theorem xO (ao:Option Addr) (len cap:Nat) (zs:List Int) (hlen:zs.length=len) (hcap:len≤maxLen) (w:World) (hz:Ae w w.heap.size zs ao) (iG:dL w) (hpw:iM w):
 Calls Tryz.prog 7 #[.slice ao len cap] w fun e w'=>e= .returned (.bool true)∧Below w.heap.size w w':=by
 subst hlen
 have HZ:=Lib.hid hz
 have kM:=Lib.hid iG
 have iE:=Lib.hid hpw
 unfold maxLen at hcap
 clear hz iG hpw
 go_enter Tryz.func7,Tryz.ntmps7
 go_wp2_with fail
 refine (FP w zs ao cap HZ.out (by omega)).mono ?_
 rintro e w1 ⟨op,n,nm,kids,xJ,qN,rfl,⟨hok,hsh,hwt⟩,hat,hb⟩
 have HB1:=Lib.hid hb
 have NJ:=Lib.hid (wD op n nm kids w1 xJ qN hok hsh (Nat.le_trans hwt (by decide)) hat (iE.out.next hb))
 have iY:=Lib.hid (Nat.le_trans (j5 op n nm hok.2.1 hat) hwt)
 generalize bf op n nm kids=s at *
 clear hb hok hsh hwt hat
 unfold exV
 go_wp2_with fail
 refine NJ.out.mono ?_
 rintro e w2 ⟨rfl,hb2⟩
 have HB2:=Lib.hid (HB1.out.trans (hb2.mono HB1.out.size))
 clear hb2 NJ HB1 iY
 by_cases hbig:1000 < s.size
 ·go_wp2_with fail
  go_ret
  exact ⟨rfl,HB2.out⟩
 ·have hm:s.size≤maxLen:=by unfold maxLen; omega
  have HP:=Lib.hid (zh s w2 (kM.out.same HB2.out) hm)
  have HL:Hid (s.data.toList.length≤4000):=Lib.hid (by rw [← Lib.size_eq]; omega)
  obtain ⟨s2,HS2⟩: ∃s2:ByteArray,Hid (s2=(⟨#[40]⟩++s)++⟨#[10,41]⟩):=⟨_,Lib.hid rfl⟩
  have HM2:Hid (s2.size≤maxLen∧((⟨#[40]⟩:ByteArray)++s).size≤2000):=Lib.hid (by
   have e1:(⟨#[40]⟩:ByteArray).size=1:=rfl
   have e2:(⟨#[10,41]⟩:ByteArray).size=2:=rfl
   rw [HS2.out]
   simp only [ByteArray.size_append,e1,e2]; unfold maxLen; omega)
  have aP:=Lib.hid (fun w hk=>zh s2 w hk HM2.out.1)
  have HE2:Hid (s2.data.toList=40 ::(s.data.toList++[10,41])):=Lib.hid (by rw [HS2.out]; simp)
  have WJ:Hid ((dV s.data.toList).2.1=0→dV s2.data.toList=((dV s.data.toList).1,0,0)):=Lib.hid (fun h=>by rw [HE2.out]; exact paren HL.out h)
  clear HE2 HL
  generalize dV s.data.toList=res at *
  generalize dV s2.data.toList=res2 at *
  obtain ⟨x,er,ln⟩:=res
  go_wp2_with fail
  refine HP.out.mono ?_
  rintro e w3 ⟨ao,cap,rfl,hok,hat,hb⟩
  have fH:=Lib.hid hok
  have HAT:=Lib.hid hat
  have HB:=Lib.hid (HB2.out.trans (hb.mono HB2.out.size))
  clear hok hat hb HP
  unfold exV
  go_upto_region 5 with fail
  have HE:=Lib.hid ((Sit.start w3).qw (n:=w3.heap.size) rfl (.int .i64 x.op) (.int .i64 x.n) (.string x.nm) (.slice ao x.kids.len cap) 45)
  generalize hW:World.alloc w3 _=W1
  rw [hW] at HE
  clear hW
  by_cases her:er=0
  ·have hr2:=WJ.out her
   subst her
   rw [hr2] at aP
   have YS:((⟨#[40]⟩:ByteArray)++s).size≤2000:=HM2.out.2
   have hsz:s.size≤1000:=by omega
   have hs2:=HS2.out
   go_wp2_with fail
   rw [← hs2]
   refine (aP.out _ (kM.out.same (HB.out.trans (HE.out.1.mono HB.out.size)))).mono ?_
   rintro e w4 ⟨jZ,cap2,rfl,hok,hat,hb⟩
   have pF:=Lib.hid hat
   have HE2:=Lib.hid (HE.out.next hb)
   clear hok hat hb HE aP hs2 hsz YS
   unfold exV
   go_upto_region 8 with fail
   have gH:=Lib.hid (HE2.out.qw (n:=w4.heap.size) rfl (.int .i64 x.op) (.int .i64 x.n) (.string x.nm) (.slice jZ x.kids.len cap2) 45)
   have yB:Hid (∀W,w4.alloc (.cells #[.int .i64 x.op,.int .i64 x.n,.string x.nm,.slice jZ x.kids.len cap2] 45)=W→x.kids.At W W.heap.size ao 0∧x.kids.At W W.heap.size jZ 0):=Lib.hid (fun W hW=>by
    subst hW
    exact ⟨HAT.out.same gH.out.1,pF.out.same (ah _ _)⟩)
   generalize hW:World.alloc w4 _=W3
   rw [hW] at gH
   have HA:=Lib.hid (yB.out _ hW)
   clear hW yB HE2
   obtain ⟨-,⟨-,c0⟩,⟨-,c1⟩,⟨-,c2⟩,⟨-,c3⟩,⟨-,c4⟩,⟨-,c5⟩,⟨-,c6⟩,⟨-,c7⟩,-⟩:=gH.out
   go_wp2_with fail
   refine (nI _ _ _ _ _ ao cap jZ cap2 fH.out HA.out.1 HA.out.2).mono ?_
   rintro e w5 ⟨rfl,hb⟩
   have dN:=Lib.hid ((HB.out.trans (gH.out.1.mono HB.out.size)).trans (hb.mono (Nat.le_trans HB.out.size gH.out.1.size)))
   clear hb c0 c1 c2 c3 c4 c5 c6 c7 gH HA HAT pF fH HB
   go_wp2_with fail
   refine (Az _ (kM.out.same dN.out)).mono ?_
   rintro e w6 ⟨rfl,hb⟩
   go_wp2_with fail
   go_ret
   exact ⟨rfl,dN.out.trans (hb.mono dN.out.size)⟩
  ·have dN:=Lib.hid (HB.out.trans (HE.out.1.mono HB.out.size))
   have hne:(er == 0)=false:=by rw [beq_eq_false_iff_ne]; exact her
   clear WJ HE aP
   go_wp2_with fail
   refine (Az _ (kM.out.same dN.out)).mono ?_
   rintro e w6 ⟨rfl,hb⟩
   go_wp2_with fail
   go_ret
   exact ⟨rfl,dN.out.trans (hb.mono dN.out.size)⟩
end Go.Proofs.YtehnipchbmjlhaaGreatDoor
