/- What is parsed is shaped. No program in sight. And what hangs on it. -/
import Derived.Test.YtkmllehjemjgpaaGreatDoorGZA
import Derived.Test.YtkmllehjemjgpaaGreatDoorGMA
import Derived.Lib.ParseIntB
set_option linter.unusedSimpArgs false
set_option linter.unusedVariables false
set_option maxHeartbeats 40000000
set_option maxRecDepth 1000000
section
namespace Go.Proofs.YtkmllehjemjgpaaGreatDoor.Pz
open Go.RowKit Md Tk
def EG (ts:aO):Prop:= ∀t∈ts,Ub t
theorem EG.tail {ts:aO} (h:EG ts):EG ts.tail:=λt ht=>h t (List.mem_of_mem_tail ht)
theorem wC {ts:aO} (h:EG ts) (hn:isName ts=true):iC (aQ ts)=true:=by
 cases ts with
 |nil=>exact absurd hn (by simp[isName,nextK])
 |cons t r=>exact(h t (by simp)).1 (by simpa[isName,nextK]using hn)
theorem Wn {ts:aO} (h:EG ts) (hn:isNum ts=true):((aQ ts).isEmpty=false∧(aQ ts).all kJ=true)∧wX (aQ ts)=true:=by
 cases ts with
 |nil=>exact absurd hn (by simp[isNum,nextK])
 |cons t r=>exact(h t (by simp)).2.1 (by simpa[isNum,nextK]using hn)
theorem Ku (l:List UInt8):(tx l).data.toList=l:=by simp[tx]
end Go.Proofs.YtkmllehjemjgpaaGreatDoor.Pz
end
section
namespace Go.Proofs.YtkmllehjemjgpaaGreatDoor.Pz
open Go.RowKit Md Tk
end Go.Proofs.YtkmllehjemjgpaaGreatDoor.Pz
end
section
namespace Go.Proofs.YtkmllehjemjgpaaGreatDoor.Pz
open Go.RowKit Md Tk
theorem Vv {ts:aO} (hT:EG ts) (h:isNum ts=true):(val (aQ ts):Int)<=9223372036854775807:=by
 have:=(Wn hT h).2;unfold wX at this;have:=of_decide_eq_true this;omega
theorem ab9 (x:List UInt8):(pX x==0)=false->1<=pX x∧pX x<=6:=by
 intro h;unfold pX at h⊢;grind (splits:=40)
end Go.Proofs.YtkmllehjemjgpaaGreatDoor.Pz
end
section
namespace Go.Proofs.YtkmllehjemjgpaaGreatDoor.Pz
open Go.RowKit Md Tk
def xu (n:Nat) (c:UInt8):Nat:=10*n+(c.toNat -48)
theorem QG: ∀(l:List UInt8) (a:Nat),a<=l.foldl xu a
 | [],a=>Nat.le_refl a
 |c::r,a=>Nat.le_trans (by unfold xu;omega) (QG r (xu a c))
theorem QU {c:UInt8} (h:kJ c=true):48<=c.toNat∧c.toNat<=57:=by
 unfold kJ qz at h;rw[Bool.and_eq_true]at h;have h1:=of_decide_eq_true h.1;have h2:=of_decide_eq_true h.2;omega
theorem aa6 {M:Nat} (hM:9223372036854775807<=M): ∀(l:List UInt8) (a:Nat),l.all kJ=true->l.foldl xu a<=9223372036854775807->Lib.parseUintM M a l= .ok (l.foldl xu a)
 | [],a,_,_=>rfl
 |c::r,a,h,hv=>by
  rw[List.all_cons,Bool.and_eq_true]at h;have hd:=QU h.1;have hv':r.foldl xu (xu a c)<=9223372036854775807:=hv;have hg:=QG r (xu a c);have ih:=aa6 hM r (xu a c) h.2 hv';have hs:xu a c=a*10+(c.toNat -48):=by unfold xu;omega
  unfold Lib.parseUintM;rw[if_pos hd,if_neg (by omega),if_neg (by omega),<- hs,ih];rfl
theorem VB {l:List UInt8} (h1:l.isEmpty=false) (h2:l.all kJ=true) (h3:wX l=true):Lib.parseIntB 64 l= .ok (val l:Int):=by
 have hv:val l<=9223372036854775807:=of_decide_eq_true h3;cases l with
 |nil=>cases h1
 |cons c r=>
  have hd:=QU (by rw[List.all_cons,Bool.and_eq_true]at h2;exact h2.1);have hu:Lib.parseUintB 64 (c::r)= .ok (val (c::r)):=by unfold Lib.parseUintB;rw[if_neg (by simp)];exact aa6 (by decide) (c::r) 0 h2 hv
  unfold Lib.parseIntB;dsimp only;rw[if_neg (by omega),hu];dsimp only
  rw[if_neg (by rintro⟨-,h⟩;have:(2:Nat) ^ (64 -1)=9223372036854775808:=by decide
                omega),if_neg (by rintro⟨h,-⟩;omega),if_neg (by omega)]
end Go.Proofs.YtkmllehjemjgpaaGreatDoor.Pz
end
