/-
  The walk of the law ParseTexts.
-/
import Derived.Test.YtehnipchbmjlhaaGreatDoorGRE
import Derived.Test.YtehnipchbmjlhaaGreatDoorGFC
import Derived.Test.YtehnipchbmjlhaaGreatDoorGMS
import Derived.Test.YtehnipchbmjlhaaGreatDoorGSM
import Derived.Test.YtehnipchbmjlhaaGreatDoorGXC
set_option linter.unusedSimpArgs false
set_option linter.unusedVariables false
set_option maxHeartbeats 40000000
set_option maxRecDepth 1000000
namespace Go.Proofs.YtehnipchbmjlhaaGreatDoor
open Go.RowKit
open Md Pz Fm
theorem uq: ∀(l:aN) (n:Nat),l.kN false (D9 l n)
 | .nil,_=>trivial
 | .cons h b e r,n=>⟨⟨rfl,fun h=>by cases h⟩,uq b _,uq e _,uq r _⟩
theorem KR: ∀(l:List De) (n:Nat),pU false l (Tq n l)
 | [],_=>trivial
 | d ::r,n=>⟨⟨rfl,fun h=>by cases h⟩,KR r _⟩
theorem KU: ∀(l:List Th) (n:Nat),ou false l (TF n l)
 | [],_=>trivial
 | t ::r,n=>⟨⟨⟨rfl,rfl⟩,(fun h=>by cases h),uq _ _⟩,KU r _⟩
theorem XH (p:Pr):p.kN false (vP p):=⟨KR _ _,KU _ _⟩
theorem KV {w:World} {B:Nat} : ∀ {l:List De} {ao:Option Addr} {k:Nat},iL w B l ao k→ ∀d ∈ l,d.size≤9223372036854775807∧aU d.init
 | [],_,_,_=>fun d hd=>by cases hd
 | d ::r,ao,k,h=>by
   obtain ⟨⟨b,off,e,hB,c0,c1,c2,c3,c4,c5,hok⟩,hr⟩:=h
   intro x hx
   rcases List.mem_cons.1 hx with rfl | hx
   ·exact ⟨hok.2.2.2.1.2,hok.2.2.2.2.1⟩
   ·exact KV hr x hx
theorem K8 {w:World} {B:Nat} : ∀ {l:List Th} {ao:Option Addr} {k:Nat},iI w B l ao k→ ∀t ∈ l,yP t.body
 | [],_,_,_=>fun d hd=>by cases hd
 | t ::r,ao,k,h=>by
   obtain ⟨⟨b,off,fC,dN,bG,aS,e,hB,c0,c1,c2,c3,hok,htx,Bw,-⟩,hr⟩:=h
   intro x hx
   rcases List.mem_cons.1 hx with rfl | hx
   ·exact Bc Bw
   ·exact K8 hr x hx
theorem Uy {w:World} {p:Pr} {aH aI:Option Addr} (h:p.At w aH aI):Vx p:=⟨KV h.2.2.1,K8 h.2.2.2⟩
end Go.Proofs.YtehnipchbmjlhaaGreatDoor
