/-
  The walk of the law ParseTexts.
-/
import Derived.Test.YtehnipchbmjlhaaGreatDoorGRE
import Derived.Test.YtehnipchbmjlhaaGreatDoorGFC
import Derived.Test.YtehnipchbmjlhaaGreatDoorGMS
import Derived.Test.YtehnipchbmjlhaaGreatDoorGSM
import Derived.Test.YtehnipchbmjlhaaGreatDoorGXC
set_option linter.unusedSimpArgs false
set_option linter.unusedVariables false
namespace Go.Proofs.YtehnipchbmjlhaaGreatDoor
open Go.RowKit
open Md Pz Fm
theorem tQ: ∀(l:aI) (n:Nat),l.qF false (Ec l n)
 | .nil,_=>trivial
 | .cons h b e r,n=>⟨⟨rfl,fun h=>by cases h⟩,tQ b _,tQ e _,tQ r _⟩
theorem LW: ∀(l:List De) (n:Nat),Em false l (Tg n l)
 | [],_=>trivial
 | d ::r,n=>⟨⟨rfl,fun h=>by cases h⟩,LW r _⟩
theorem Lr: ∀(l:List Th) (n:Nat),EB false l (TB n l)
 | [],_=>trivial
 | t ::r,n=>⟨⟨⟨rfl,rfl⟩,(fun h=>by cases h),tQ _ _⟩,Lr r _⟩
theorem Xl (p:Pr):p.qF false (zB p):=⟨LW _ _,Lr _ _⟩
theorem Ld {w:World} {B:Nat} : ∀ {l:List De} {ao:Option Addr} {k:Nat},gV w B l ao k→ ∀d ∈ l,d.size≤9223372036854775807∧aV d.init
 | [],_,_,_=>fun d hd=>by cases hd
 | d ::r,ao,k,h=>by
   obtain ⟨⟨b,off,e,hB,c0,c1,c2,c3,c4,c5,hok⟩,hr⟩:=h
   intro x hx
   rcases List.mem_cons.1 hx with rfl | hx
   ·exact ⟨hok.2.2.2.1.2,hok.2.2.2.2.1⟩
   ·exact Ld hr x hx
theorem Lc {w:World} {B:Nat} : ∀ {l:List Th} {ao:Option Addr} {k:Nat},gP w B l ao k→ ∀t ∈ l,yK t.body
 | [],_,_,_=>fun d hd=>by cases hd
 | t ::r,ao,k,h=>by
   obtain ⟨⟨b,off,fD,dI,bR,aZ,e,hB,c0,c1,c2,c3,hok,htx,vZ,-⟩,hr⟩:=h
   intro x hx
   rcases List.mem_cons.1 hx with rfl | hx
   ·exact Bd vZ
   ·exact Lc hr x hx
theorem V9 {w:World} {p:Pr} {bq bQ:Option Addr} (h:p.At w bq bQ):Xx p:=⟨Ld h.2.2.1,Lc h.2.2.2⟩
set_option maxHeartbeats 4000000 in
set_option maxRecDepth 100000 in
theorem Dt (ao:Option Addr) (len cap:Nat) (zs:List Int) (hlen:zs.length=len) (hcap:len≤maxLen) (w:World) (hz:Ae w w.heap.size zs ao) (iG:dL w) (hpw:iM w):
 Calls Tryz.prog 3 #[.slice ao len cap] w fun e w'=>e= .returned (.bool true)∧Below w.heap.size w w':=by
 subst hlen
 have HZ:=Lib.hid hz
 have kM:=Lib.hid iG
 have iE:=Lib.hid hpw
 unfold maxLen at hcap
 clear hz iG hpw
 by_cases ah1:200 < zs.length
 ·go_enter Tryz.func3,Tryz.ntmps3
  go_wp2_with fail
  go_ret
  exact ⟨rfl,Below.refl _ _⟩
 ·go_enter Tryz.func3,Tryz.ntmps3
  go_wp2_with fail
  refine (Oe w zs ao cap HZ.out (by omega)).mono ?_
  rintro e w1 ⟨p,bq,bQ,bg,bn,rfl,hp,SH,SE,⟨hsh,hth,hwt⟩,hb⟩
  have HP:=Lib.hid hp
  have HB:=Lib.hid hb
  have xH:=Lib.hid hsh
  have HF:Hid (R9 p):=Lib.hid ⟨hsh,hth,hwt.1,hwt.2⟩
  have hsz:=J3 hp HF.out
  clear hp SH SE hb hsh hth hwt
  go_upto_region 4 with fail
  have HX:=Lib.hid ((Sit.start w1).EO (n:=w1.heap.size) rfl (.slice bq p.ds.length bg) (.slice bQ p.ts.length bn) 26)
  generalize hW:World.alloc w1 _=W
  rw [hW] at HX
  clear hW
  obtain ⟨-,⟨-,c0⟩,⟨-,c1⟩,-⟩:=HX.out
  have HB1:=Lib.hid (HB.out.trans (HX.out.1.mono HB.out.size))
  have HFP:=Lib.hid (He p W bq bQ bg bn (HP.out.same HX.out.1) HF.out (iE.out.next HB1.out))
  have JY:Hid ((tl (rQ p)).length≤4096→parse (tl (rQ p))=(zB p,0,0)):=Lib.hid (fun h=>round xH.out (V9 HP.out) h)
  have qp:Hid ((rQ p).size=(tl (rQ p)).length):=Lib.hid (Lib.size_eq _)
  have BG:=Lib.hid (fun w hk hm=>Gp (rQ p) w hk hm)
  rw [show (rQ p).data.toList=tl (rQ p) from rfl] at BG
  generalize rQ p=s at *
  go_wp2_with fail
  refine HFP.out.mono ?_
  rintro e w2 ⟨rfl,hb2⟩
  have HY:=Lib.hid (HX.out.next hb2)
  clear hb2 c0 c1 HX HFP
  obtain ⟨-,⟨-,c0⟩,⟨-,c1⟩,-⟩:=HY.out
  by_cases hbig:4096 < s.size
  ·go_wp2_with fail
   go_ret
   exact ⟨rfl,HB.out.trans (HY.out.1.mono HB.out.size)⟩
  ·have HPR:=Lib.hid (JY.out (by have:=qp.out; omega))
   have HB2:=Lib.hid (HB.out.trans (HY.out.1.mono HB.out.size))
   have Yt:=Lib.hid (BG.out w2 (kM.out.same HB2.out) (by unfold maxLen; omega))
   rw [HPR.out] at Yt
   clear BG JY HPR qp
   go_wp2_with fail
   refine Yt.out.mono ?_
   rintro e w3 ⟨MZ,Nr,Mr,Ms,rfl,hl,hat,hb3,-⟩
   have HL:=Lib.hid hl
   have pF:=Lib.hid hat
   have HV:=Lib.hid (HY.out.next hb3)
   clear hl hat hb3 Yt c0 c1 HY
   dsimp only at HL pF ⊢
   go_upto_region 8 with fail
   have HU:=Lib.hid (HV.out.EO (n:=w3.heap.size) rfl (.slice MZ (zB p).ds.length Nr) (.slice Mr (zB p).ts.length Ms) 26)
   have yB:Hid (∀W,w3.alloc (.cells #[.slice MZ (zB p).ds.length Nr,.slice Mr (zB p).ts.length Ms] 26)=W→p.At W bq bQ∧(zB p).At W MZ Mr):=Lib.hid (fun W hW=>by
    subst hW
    exact ⟨HP.out.same HU.out.1,Nat.le_trans HL.out.1 (by unfold maxLen; decide),Nat.le_trans HL.out.2.1 (by unfold maxLen; decide),pF.out.1.same (ah _ _),pF.out.2.same (ah _ _)⟩)
   generalize hW:World.alloc w3 _=W3
   rw [hW] at HU
   have HA:=Lib.hid (yB.out _ hW)
   clear hW yB HV
   obtain ⟨-,⟨-,c0⟩,⟨-,c1⟩,⟨-,c2⟩,⟨-,c3⟩,-⟩:=HU.out
   go_wp2_with fail
   refine (R4 p (zB p) false _ bq bQ bg bn MZ Mr Nr Ms (Xl p) HA.out.1 HA.out.2).mono ?_
   rintro e w4 ⟨rfl,hb⟩
   have dN:=Lib.hid ((HB.out.trans (HU.out.1.mono HB.out.size)).trans (hb.mono (Nat.le_trans HB.out.size HU.out.1.size)))
   clear hb c0 c1 c2 c3 HU HA pF HL HB HB1 HB2
   go_wp2_with fail
   go_ret
   exact ⟨rfl,dN.out⟩
end Go.Proofs.YtehnipchbmjlhaaGreatDoor
