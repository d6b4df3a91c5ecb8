/- The reference's At: the place of a text in a row. -/
import Derived.Test.YtgjmahnblcajbaaGreatDoorGMA
set_option linter.unusedSimpArgs false
set_option linter.unusedVariables false
set_option maxHeartbeats 40000000
set_option maxRecDepth 1000000
namespace Go.Proofs.YtgjmahnblcajbaaGreatDoor
open Go.RowKit
namespace Md
def fidx {α:Type} (f:α->Bool):List α->Nat->Int
 | [],_=> -1
 | x ::r,k=>if f x then (k:Int) else fidx f r (k + 1)
def VP (l:List ByteArray) (nm:ByteArray):Int:=fidx (fun s=>s.toList == nm.toList) l 0
end Md
open Md
theorem TA (l:List ByteArray) (nm:ByteArray) (w:World) (ao:Option Addr) (cap:Nat) (hl:l.length<=maxLen) (hw:dU w w.heap.size l ao 0):
 Calls Tryz.prog 23 #[.slice ao l.length cap,.string nm] w fun e w'=>e= .returned (.int .i64 (VP l nm))∧w=w':=by
 unfold maxLen at hl;go_enter Tryz.func23,Tryz.ntmps23;go_wp2_with fail;go_loop [5] (fun s=> ∃(k:Nat) (R:List ByteArray),s= .int .i64 k∧k + R.length=l.length∧VP l nm=fidx (fun s=>s.toList == nm.toList) R k∧dU w w.heap.size R ao k) (fun s=>l.length - (intOf s).toNat)
 case atStart=>exact ⟨0,l,rfl,by simp,rfl,hw⟩
 case round=>
  obtain ⟨k,R,rfl,hlen,heq,hrow⟩:=hrel;have HE:=ah heq;clear heq;cases R with
  | nil=>
    obtain rfl:k=l.length:=by simpa using hlen
    go_wp2_with fail;go_ret;exact ⟨dB HE.o.symm,rfl⟩
  | cons s R=>
    obtain ⟨⟨b,off,rfl,hB,y0,hs⟩,hrest⟩:=hrow;simp only [List.length_cons] at hlen;have hkl:k < l.length:=by omega
    cases hc:(s.toList == nm.toList)
    ·have dV:=ah (HE.o.trans (if_neg (show ¬ (s.toList == nm.toList)=true by rw [hc]; decide)));go_wp2_with fail;go_round
     case rel=>exact ⟨k + 1,R,by go_num,by omega,dV.o,hrest⟩
     case measure=>simp [intOf]; omega
    ·have dV:=ah (HE.o.trans (if_pos hc));go_wp2_with fail;go_ret;exact ⟨dB dV.o.symm,rfl⟩
end Go.Proofs.YtgjmahnblcajbaaGreatDoor
