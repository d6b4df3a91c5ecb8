/-
  Contracts of the reference's Keywords, Signs, IsKeyword, IsName, Number, signAt.
-/
import Derived.Test.YtehnipchbmjlhaaGreatDoorGNA
set_option linter.unusedSimpArgs false
set_option linter.unusedVariables false
set_option maxHeartbeats 40000000
set_option maxRecDepth 1000000
namespace Go.Proofs.YtehnipchbmjlhaaGreatDoor
open Go.RowKit
def Di:List Value:=Tk.Bu.map fun l=>Value.string ⟨l.toArray⟩
theorem L6 (k:Nat) (h:k < 22):Di[k]? =some (.string (FI k)):=by
 have hl:Tk.Bu.length=22:=rfl
 unfold Di FI
 rw [List.getElem?_map,List.getElem?_eq_getElem (by omega),Jj k (by omega)]
 rfl
theorem JI (w:World):
 Calls Tryz.prog 114 #[] w fun e w'=>e= .returned (.slice (some ⟨w.heap.size,0,none⟩) 22 22)∧w.alloc (.cells Di.toArray 9)=w':=by
 go_enter Tryz.func114,Tryz.ntmps114
 go_wp2
 go_ret
 exact ⟨rfl,rfl⟩
theorem D9 (s:ByteArray) (w:World):
 Calls Tryz.prog 74 #[.string s] w fun e w'=>e= .returned (.bool (Tk.jQ s.data.toList))∧Below w.heap.size w w':=by
 rw [← Lib.toList_data]
 go_enter Tryz.func74,Tryz.ntmps74
 go_wp2_with fail
 refine (JI _).mono ?_
 rintro e w1 ⟨rfl,hw⟩
 have hcell: ∀k,k < 22→w1.cell? ⟨w.heap.size,k,none⟩=some (.string (FI k)):=fun k hk=>by
  rw [← hw,AQ,L6 k hk]
 have HB:Hid (Below w.heap.size w w1):=Lib.hid (by rw [← hw]; exact (Below.refl _ _).alloc (Nat.le_refl _) _)
 have HC:=Lib.hid hcell
 clear hw hcell
 go_wp2
 go_loop [4] (fun i=> ∃k:Nat,k≤22∧i= .int .i64 k∧Ij s.toList k) (fun i=>22 - (intOf i).toNat)
 case atStart=>exact ⟨0,Nat.zero_le _,rfl,fun j hj=>absurd hj (by omega)⟩
 case round=>
  obtain ⟨k,hk,rfl,hno⟩:=hrel
  by_cases hlt:k < 22
  ·have hix:=HC.out k hlt
   have hat:=CJ k
   by_cases he:(s.toList == uW k)=true
   ·have he2:(uW k == s.toList)=true:=by rw [beq_iff_eq] at he ⊢; exact he.symm
    have HY:=Lib.hid (P5 k hlt _ he)
    clear he
    go_wp2
    go_ret
    exact ⟨bG HY.out.symm,HB.out⟩
   ·have he':(s.toList == uW k)=false:=by simpa using he
    have he2:(uW k == s.toList)=false:=by rw [beq_eq_false_iff_ne] at he' ⊢; exact he'.symm
    have hst:=hno.step he'
    clear he he'
    go_wp2
    go_round
    case rel=>exact ⟨k + 1,by omega,by go_num,hst⟩
    case measure=>simp [intOf]; omega
  ·obtain rfl:k=22:=by omega
   go_wp2
   go_ret
   exact ⟨bG (Uj _ hno).symm,HB.out⟩
end Go.Proofs.YtehnipchbmjlhaaGreatDoor
