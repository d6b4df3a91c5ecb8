/-
  Contracts of the reference's Keywords, Signs, IsKeyword, IsName, Number, signAt.
-/
import Derived.Test.YtehnipchbmjlhaaGreatDoorGNA
namespace Go.Proofs.YtehnipchbmjlhaaGreatDoor
open Go.RowKit
def CK:List Value:=Tk.vo.map fun l=>Value.string ⟨l.toArray⟩
theorem Kz (k:Nat) (h:k < 22):CK[k]? =some (.string (Fj k)):=by
 have hl:Tk.vo.length=22:=rfl
 unfold CK Fj
 rw [List.getElem?_map,List.getElem?_eq_getElem (by omega),Jl k (by omega)]
 rfl
set_option maxRecDepth 100000 in
theorem K5 (w:World):
 Calls Tryz.prog 114 #[] w fun e w'=>e= .returned (.slice (some ⟨w.heap.size,0,none⟩) 22 22)∧w.alloc (.cells CK.toArray 9)=w':=by
 go_enter Tryz.func114,Tryz.ntmps114
 go_wp2
 go_ret
 exact ⟨rfl,rfl⟩
set_option maxHeartbeats 400000 in
theorem CZ (s:ByteArray) (w:World):
 Calls Tryz.prog 74 #[.string s] w fun e w'=>e= .returned (.bool (Tk.jB s.data.toList))∧Below w.heap.size w w':=by
 rw [← Lib.toList_data]
 go_enter Tryz.func74,Tryz.ntmps74
 go_wp2_with fail
 refine (K5 _).mono ?_
 rintro e w1 ⟨rfl,hw⟩
 have hcell: ∀k,k < 22→w1.cell? ⟨w.heap.size,k,none⟩=some (.string (Fj k)):=fun k hk=>by
  rw [← hw,AX,Kz k hk]
 have HB:Hid (Below w.heap.size w w1):=Lib.hid (by rw [← hw]; exact (Below.refl _ _).alloc (Nat.le_refl _) _)
 have HC:=Lib.hid hcell
 clear hw hcell
 go_wp2
 go_loop [4] (fun i=> ∃k:Nat,k≤22∧i= .int .i64 k∧Ib s.toList k) (fun i=>22 - (intOf i).toNat)
 case atStart=>exact ⟨0,Nat.zero_le _,rfl,fun j hj=>absurd hj (by omega)⟩
 case round=>
  obtain ⟨k,hk,rfl,hno⟩:=hrel
  by_cases hlt:k < 22
  ·have hix:=HC.out k hlt
   have hat:=Ci k
   by_cases he:(s.toList == vK k)=true
   ·have he2:(vK k == s.toList)=true:=by rw [beq_iff_eq] at he ⊢; exact he.symm
    have HY:=Lib.hid (P7 k hlt _ he)
    clear he
    go_wp2
    go_ret
    exact ⟨bG HY.out.symm,HB.out⟩
   ·have he':(s.toList == vK k)=false:=by simpa using he
    have he2:(vK k == s.toList)=false:=by rw [beq_eq_false_iff_ne] at he' ⊢; exact he'.symm
    have hst:=hno.step he'
    clear he he'
    go_wp2
    go_round
    case rel=>exact ⟨k + 1,by omega,by go_num,hst⟩
    case measure=>simp [intOf]; omega
  ·obtain rfl:k=22:=by omega
   go_wp2
   go_ret
   exact ⟨bG (Un _ hno).symm,HB.out⟩
def QZ (s:ByteArray) (k:Nat):Prop:= ∀j (h:j < s.size),j < k→Tk.dP s[j]=true
theorem QZ.step {s:ByteArray} {k:Nat} (h:QZ s k) (hk:k < s.size) (hp:Tk.dP s[k]=true):QZ s (k + 1):=by
 intro j hj hjk
 by_cases e:j=k
 ·subst e; exact hp
 ·exact h j hj (by omega)
end Go.Proofs.YtehnipchbmjlhaaGreatDoor
