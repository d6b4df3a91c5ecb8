/-
  Contract of token.IsName.
-/
import Derived.Test.YtdajkddgnfgijaaGreatDoorGA
import Derived.Deep.QuietTactic
import Derived.BigQuiet
import Derived.Laws.RangeAny
namespace Go.Proofs.YtdajkddgnfgijaaGreatDoor
open Go.RowKit
def xV (s:ByteArray) (j:Nat) (h:j < s.size):Bool:=if j=0 then Tk.wT s[j] else Tk.iJ s[j]
def Gy (s:ByteArray) (k:Nat):Prop:= ∀j (h:j < s.size),j < k→xV s j h=true
theorem Gy.step {s:ByteArray} {k:Nat} (h:Gy s k) (hk:k < s.size) (hp:xV s k hk=true):Gy s (k + 1):=by
 intro j hj hjk
 by_cases e:j=k
 ·subst e; exact hp
 ·exact h j hj (by omega)
def JO (l:List UInt8):Bool:=l.head?.any Tk.wT && l.all Tk.iJ
theorem Uk (s:ByteArray) (h0:0 < s.size) (h:Gy s s.size):JO s.data.toList=true:=by
 unfold JO
 rw [Bool.and_eq_true]
 constructor
 ·have:=h 0 h0 h0
  unfold xV at this
  rw [if_pos rfl] at this
  rw [Tk.qV s h0]
  exact this
 ·rw [List.all_eq_true]
  intro c hc
  obtain ⟨j,hj,rfl⟩:=List.getElem_of_mem hc
  have hj':j < s.size:=by rw [Lib.size_eq]; exact hj
  have:=h j hj' hj'
  unfold xV at this
  split at this
  ·exact IY _ this
  ·exact this
theorem Xw (s:ByteArray) (k:Nat) (hk:k < s.size) (h:xV s k hk=false):JO s.data.toList=false:=by
 unfold JO
 unfold xV at h
 split at h
 ·rename_i e
  subst e
  have h1:s.data.toList.head?.any Tk.wT=false:=by rw [Tk.qV s hk]; exact h
  rw [h1]; rfl
 ·have h1:s.data.toList.all Tk.iJ=false:=by
   rw [List.all_eq_false]
   exact ⟨s[k],List.getElem_mem (by rw [← Lib.size_eq]; exact hk),by rw [h]; decide⟩
  rw [h1,Bool.and_false]
theorem U2 (l:List UInt8):Tk.kT l=((decide (1≤l.length) && decide (l.length≤12) && !Tk.pR l) && JO l):=rfl
theorem PE (s:ByteArray) (k:Nat) (hk:k < s.size) (r:Int) (hr:(s[k].toNat < 128∧r=(s[k].toNat:Int))∨(128≤s[k].toNat∧128≤r)):
 (xV s k hk=true∧s[k].toNat < 128∧((97≤r∧r≤122)∨(65≤r∧r≤90)))∨
 (xV s k hk=true∧s[k].toNat < 128∧0 < k∧(r=95∨(48≤r∧r≤57)))∨
 (xV s k hk=false∧ ¬ (97≤r∧r≤122)∧ ¬ (65≤r∧r≤90)∧(k=0∨(0 < k∧r≠95∧ ¬ (48≤r∧r≤57)))):=by
 unfold xV Tk.iJ Tk.wT Tk.V4 Tk.qH Tk.oF
 have hc:=s[k].toNat_lt
 generalize s[k].toNat=c at *
 by_cases h1:97≤(c:Int)∧(c:Int)≤122
 ·left; simp [h1]; omega
 ·by_cases h2:65≤(c:Int)∧(c:Int)≤90
  ·left; simp [h2]; omega
  ·by_cases h0:k=0
   ·right; right; simp [h0]; omega
   ·by_cases h3:(c:Int)=95∨(48≤(c:Int)∧(c:Int)≤57)
    ·right; left
     rw [if_neg h0]
     refine ⟨?_,by omega,by omega,by omega⟩
     simp only [Bool.or_eq_true,Bool.and_eq_true,decide_eq_true_eq,beq_iff_eq]
     omega
    ·right; right
     rw [if_neg h0]
     refine ⟨?_,by omega,by omega,by omega⟩
     rw [Bool.eq_false_iff]
     simp only [ne_eq,Bool.or_eq_true,Bool.and_eq_true,decide_eq_true_eq,beq_iff_eq]
     omega
def Vm (w:World) (s:ByteArray) (k:Nat) (wr:World):Prop:=wr=w.iter s k
theorem zm (w:World) (s:ByteArray) (k:Nat):Below w.heap.size w (w.iter s k):=(Below.refl _ _).alloc (Nat.le_refl _) _
set_option maxHeartbeats 2000000 in
theorem vw (s:ByteArray) (w:World) (dI:dw w) (hm:s.size≤maxLen):
 Calls Tryz.prog 80 #[.string s] w fun e w'=>e= .returned (.bool (Tk.kT s.data.toList))∧Below w.heap.size w w':=by
 have HN:=Lib.hid (U2 s.data.toList)
 rw [← Lib.size_eq] at HN
 unfold maxLen at hm
 by_cases h1:s.size < 1
 ·have HR:Hid (Tk.kT s.data.toList=false):=by
   apply Lib.hid; rw [HN.out,show decide (1≤s.size)=false from decide_eq_false (by omega)]; rfl
  clear HN
  go_enter Tryz.func80,Tryz.ntmps80
  go_wp2
  go_ret
  exact ⟨dL HR.out.symm,Below.refl _ _⟩
 ·by_cases h2:12 < s.size
  ·have HR:Hid (Tk.kT s.data.toList=false):=by
    apply Lib.hid; rw [HN.out,show decide (s.size≤12)=false from by simp; omega]; simp
   clear HN
   go_enter Tryz.func80,Tryz.ntmps80
   go_wp2
   go_ret
   exact ⟨dL HR.out.symm,Below.refl _ _⟩
  ·cases hK:Tk.pR s.data.toList
   ·have HR:Hid (Tk.kT s.data.toList=JO s.data.toList):=by
     apply Lib.hid; rw [HN.out,hK,show decide (s.size≤12)=true from by simp; omega,show decide (1≤s.size)=true from by simp; omega]; rfl
    clear HN
    go_enter Tryz.func80,Tryz.ntmps80
    go_wp2_with (go_at_call 129; refine (uM _ _ dI).mono ?_; rintro e w' ⟨rfl,rfl⟩)
    go_loopw [3] (fun _ wr=> ∃k:Nat,k≤s.size∧Vm w s k wr∧Gy s k) (fun _ wr=>s.size - wr.iterPos w.heap.size)
    case atStart=>exact ⟨0,Nat.zero_le _,rfl,fun j hj h=>absurd h (by omega)⟩
    case round=>
     obtain ⟨k,hk,hit,hok⟩:=hrel
     obtain rfl:wr=w.iter s k:=hit
     by_cases hlt:k < s.size
     ·have hnx:=fun ty=>run_next_any (P:=Tryz.prog) w s k ty hlt
      have hrr:(s[k].toNat < 128∧((Utf8.decode s k).1:Int)=(s[k].toNat:Int))∨(128≤s[k].toNat∧128≤((Utf8.decode s k).1:Int)):=by
       by_cases ha:s[k].toNat < 128
       ·left; exact ⟨ha,by rw [decode_ascii s k hlt ha]⟩
       ·right; have:=decode_high s k hlt (by omega); omega
      have hle:=decode_le s k
      have HD:Hid (s[k].toNat < 128→(Utf8.decode s k).2=1):=Lib.hid fun ha=>by rw [decode_ascii s k hlt ha]
      have parts:=PE s k hlt _ hrr
      clear hrr hK
      generalize (Utf8.decode s k).1=r at *
      generalize (Utf8.decode s k).2=z at *
      rcases parts with ⟨hn,ha,hc⟩ | ⟨hn,ha,hk0,hc⟩ | ⟨hn,hA,hB,hC⟩
      ·have hst:=hok.step hlt hn
       obtain rfl:z=1:=HD.out ha
       clear hn HD
       rcases hc with ⟨q1,q2⟩ | ⟨q1,q2⟩
       all_goals
        go_wp2
        go_roundw
        case rel=>exact ⟨k + 1,by omega,rfl,hst⟩
        case measure=>simp; omega
      ·have hst:=hok.step hlt hn
       obtain rfl:z=1:=HD.out ha
       clear hn HD
       rcases hc with q1 | ⟨q1,q2⟩
       ·have q3:((r:Int) == 95)=true:=by rw [q1]; rfl
        have q4:95≤(r:Int):=by omega
        have q5:(r:Int)≤95:=by omega
        clear q1
        go_wp2
        go_roundw
        case rel=>exact ⟨k + 1,by omega,rfl,hst⟩
        case measure=>simp; omega
       ·have q3:((r:Int) == 95)=false:=by rw [beq_eq_false_iff_ne]; omega
        go_wp2
        go_roundw
        case rel=>exact ⟨k + 1,by omega,rfl,hst⟩
        case measure=>simp; omega
      ·have HF:=Lib.hid (Xw s k hlt hn)
       clear hn HD
       rcases hC with h0 | ⟨hk0,q1,q2⟩
       ·obtain rfl:k=0:=h0
        go_wp2
        all_goals go_ret
        all_goals exact ⟨dL (HR.out.trans HF.out).symm,zm _ _ _⟩
       ·have q3:((r:Int) == 95)=false:=by rw [beq_eq_false_iff_ne]; exact q1
        clear q1
        go_wp2
        all_goals go_ret
        all_goals exact ⟨dL (HR.out.trans HF.out).symm,zm _ _ _⟩
     ·obtain rfl:k=s.size:=by omega
      have hnx:=fun ty=>run_next_end (P:=Tryz.prog) w s s.size ty (by omega)
      have HT:=Lib.hid (Uk s (by omega) hok)
      go_wp2
      go_ret
      exact ⟨dL (HR.out.trans HT.out).symm,zm _ _ _⟩
   ·have HR:Hid (Tk.kT s.data.toList=false):=by
     apply Lib.hid; rw [HN.out,hK]; simp
    clear HN
    go_enter Tryz.func80,Tryz.ntmps80
    go_wp2_with (go_at_call 129; refine (uM _ _ dI).mono ?_; rintro e w' ⟨rfl,rfl⟩)
    go_ret
    exact ⟨dL HR.out.symm,Below.refl _ _⟩
end Go.Proofs.YtdajkddgnfgijaaGreatDoor
