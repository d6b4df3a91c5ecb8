/-
  The walk of the law ParseTexts.
-/
import Derived.Test.YtehnipchbmjlhaaGreatDoorGRE
import Derived.Test.YtehnipchbmjlhaaGreatDoorGFC
import Derived.Test.YtehnipchbmjlhaaGreatDoorGMS
import Derived.Test.YtehnipchbmjlhaaGreatDoorGSM
import Derived.Test.YtehnipchbmjlhaaGreatDoorGXC
set_option linter.unusedSimpArgs false
set_option linter.unusedVariables false
namespace Go.Proofs.YtehnipchbmjlhaaGreatDoor
open Go.RowKit
open Md Pz Fm
theorem ug: ∀(l:aI) (n:Nat),l.qO false (Dh l n)
 | .nil,_=>trivial
 | .cons h b e r,n=>⟨⟨rfl,fun h=>by cases h⟩,ug b _,ug e _,ug r _⟩
theorem KS: ∀(l:List De) (n:Nat),Fp false l (Tj n l)
 | [],_=>trivial
 | d ::r,n=>⟨⟨rfl,fun h=>by cases h⟩,KS r _⟩
theorem KO: ∀(l:List Th) (n:Nat),Fg false l (TP n l)
 | [],_=>trivial
 | t ::r,n=>⟨⟨⟨rfl,rfl⟩,(fun h=>by cases h),ug _ _⟩,KO r _⟩
theorem YH (p:Pr):p.qO false (zL p):=⟨KS _ _,KO _ _⟩
theorem M0 {w:World} {B:Nat} : ∀ {l:List De} {ao:Option Addr} {k:Nat},gU w B l ao k→ ∀d ∈ l,d.size≤9223372036854775807∧aV d.init
 | [],_,_,_=>fun d hd=>by cases hd
 | d ::r,ao,k,h=>by
   obtain ⟨⟨b,off,e,hB,c0,c1,c2,c3,c4,c5,hok⟩,hr⟩:=h
   intro x hx
   rcases List.mem_cons.1 hx with rfl | hx
   ·exact ⟨hok.2.2.2.1.2,hok.2.2.2.2.1⟩
   ·exact M0 hr x hx
theorem Lf {w:World} {B:Nat} : ∀ {l:List Th} {ao:Option Addr} {k:Nat},gP w B l ao k→ ∀t ∈ l,zk t.body
 | [],_,_,_=>fun d hd=>by cases hd
 | t ::r,ao,k,h=>by
   obtain ⟨⟨b,off,fD,dG,bR,aZ,e,hB,c0,c1,c2,c3,hok,htx,wL,-⟩,hr⟩:=h
   intro x hx
   rcases List.mem_cons.1 hx with rfl | hx
   ·exact Br wL
   ·exact Lf hr x hx
theorem UL {w:World} {p:Pr} {bq bQ:Option Addr} (h:p.At w bq bQ):XB p:=⟨M0 h.2.2.1,Lf h.2.2.2⟩
set_option maxHeartbeats 4000000 in
set_option maxRecDepth 100000 in
theorem Dn (ao:Option Addr) (len cap:Nat) (zs:List Int) (hlen:zs.length=len) (hcap:len≤maxLen) (w:World) (hz:Ac w w.heap.size zs ao) (iH:dL w) (hpw:iM w):
 Calls Tryz.prog 3 #[.slice ao len cap] w fun e w'=>e= .returned (.bool true)∧Below w.heap.size w w':=by
 subst hlen
 have HZ:=Lib.hid hz
 have kQ:=Lib.hid iH
 have iD:=Lib.hid hpw
 unfold maxLen at hcap
 clear hz iH hpw
 by_cases ao9:200 < zs.length
 ·go_enter Tryz.func3,Tryz.ntmps3
  go_wp2_with fail
  go_ret
  exact ⟨rfl,Below.refl _ _⟩
 ·go_enter Tryz.func3,Tryz.ntmps3
  go_wp2_with fail
  refine (Oq w zs ao cap HZ.out (by omega)).mono ?_
  rintro e w1 ⟨p,bq,bQ,bg,bn,rfl,hp,TA,U1,⟨hsh,hth,hwt⟩,hb⟩
  have HP:=Lib.hid hp
  have HB:=Lib.hid hb
  have xX:=Lib.hid hsh
  have HF:Hid (RV p):=Lib.hid ⟨hsh,hth,hwt.1,hwt.2⟩
  have hsz:=Jj hp HF.out
  clear hp TA U1 hb hsh hth hwt
  go_upto_region 4 with fail
  have HX:=Lib.hid ((Sit.start w1).Ez (n:=w1.heap.size) rfl (.slice bq p.ds.length bg) (.slice bQ p.ts.length bn) 26)
  generalize hW:World.alloc w1 _=W
  rw [hW] at HX
  clear hW
  obtain ⟨-,⟨-,c0⟩,⟨-,c1⟩,-⟩:=HX.out
  have HB1:=Lib.hid (HB.out.trans (HX.out.1.mono HB.out.size))
  have HFP:=Lib.hid (Hz p W bq bQ bg bn (HP.out.same HX.out.1) HF.out (iD.out.next HB1.out))
  have Iu:Hid ((tl (sI p)).length≤4096→parse (tl (sI p))=(zL p,0,0)):=Lib.hid (fun h=>round xX.out (UL HP.out) h)
  have qJ:Hid ((sI p).size=(tl (sI p)).length):=Lib.hid (Lib.size_eq _)
  have BR:=Lib.hid (fun w hk hm=>FJ (sI p) w hk hm)
  rw [show (sI p).data.toList=tl (sI p) from rfl] at BR
  generalize sI p=s at *
  go_wp2_with fail
  refine HFP.out.mono ?_
  rintro e w2 ⟨rfl,hb2⟩
  have HY:=Lib.hid (HX.out.next hb2)
  clear hb2 c0 c1 HX HFP
  obtain ⟨-,⟨-,c0⟩,⟨-,c1⟩,-⟩:=HY.out
  by_cases hbig:4096 < s.size
  ·go_wp2_with fail
   go_ret
   exact ⟨rfl,HB.out.trans (HY.out.1.mono HB.out.size)⟩
  ·have HPR:=Lib.hid (Iu.out (by have:=qJ.out; omega))
   have HB2:=Lib.hid (HB.out.trans (HY.out.1.mono HB.out.size))
   have Ym:=Lib.hid (BR.out w2 (kQ.out.same HB2.out) (by unfold maxLen; omega))
   rw [HPR.out] at Ym
   clear BR Iu HPR qJ
   go_wp2_with fail
   refine Ym.out.mono ?_
   rintro e w3 ⟨MS,MH,Mg,ME,rfl,hl,hat,hb3,-⟩
   have HL:=Lib.hid hl
   have qE:=Lib.hid hat
   have HV:=Lib.hid (HY.out.next hb3)
   clear hl hat hb3 Ym c0 c1 HY
   dsimp only at HL qE ⊢
   go_upto_region 8 with fail
   have HU:=Lib.hid (HV.out.Ez (n:=w3.heap.size) rfl (.slice MS (zL p).ds.length MH) (.slice Mg (zL p).ts.length ME) 26)
   have yC:Hid (∀W,w3.alloc (.cells #[.slice MS (zL p).ds.length MH,.slice Mg (zL p).ts.length ME] 26)=W→p.At W bq bQ∧(zL p).At W MS Mg):=Lib.hid (fun W hW=>by
    subst hW
    exact ⟨HP.out.same HU.out.1,Nat.le_trans HL.out.1 (by unfold maxLen; decide),Nat.le_trans HL.out.2.1 (by unfold maxLen; decide),qE.out.1.same (ah _ _),qE.out.2.same (ah _ _)⟩)
   generalize hW:World.alloc w3 _=W3
   rw [hW] at HU
   have HA:=Lib.hid (yC.out _ hW)
   clear hW yC HV
   obtain ⟨-,⟨-,c0⟩,⟨-,c1⟩,⟨-,c2⟩,⟨-,c3⟩,-⟩:=HU.out
   go_wp2_with fail
   refine (QC p (zL p) false _ bq bQ bg bn MS Mg MH ME (YH p) HA.out.1 HA.out.2).mono ?_
   rintro e w4 ⟨rfl,hb⟩
   have dN:=Lib.hid ((HB.out.trans (HU.out.1.mono HB.out.size)).trans (hb.mono (Nat.le_trans HB.out.size HU.out.1.size)))
   clear hb c0 c1 c2 c3 HU HA qE HL HB HB1 HB2
   go_wp2_with fail
   go_ret
   exact ⟨rfl,dN.out⟩
end Go.Proofs.YtehnipchbmjlhaaGreatDoor
