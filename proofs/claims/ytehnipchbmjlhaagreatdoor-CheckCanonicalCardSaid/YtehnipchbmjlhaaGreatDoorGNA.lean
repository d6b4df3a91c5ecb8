/-
  Contract of token.IsName.
-/
import Derived.Test.YtehnipchbmjlhaaGreatDoorGTA
import Derived.Deep.QuietTactic
import Derived.BigQuiet
import Derived.Laws.RangeAny
set_option linter.unusedSimpArgs false
set_option linter.unusedVariables false
set_option maxHeartbeats 40000000
set_option maxRecDepth 1000000
namespace Go.Proofs.YtehnipchbmjlhaaGreatDoor
open Go.RowKit
def wR (s:ByteArray) (j:Nat) (h:j < s.size):Bool:=if j=0 then Tk.nX s[j] else Tk.fF s[j]
def Jk (s:ByteArray) (k:Nat):Prop:= ∀j (h:j < s.size),j < k→wR s j h=true
theorem Jk.step {s:ByteArray} {k:Nat} (h:Jk s k) (hk:k < s.size) (hp:wR s k hk=true):Jk s (k + 1):=by
 intro j hj hjk
 by_cases e:j=k
 ·subst e; exact hp
 ·exact h j hj (by omega)
def K9 (l:List UInt8):Bool:=l.head?.any Tk.nX && l.all Tk.fF
theorem Ws (s:ByteArray) (h0:0 < s.size) (h:Jk s s.size):K9 s.data.toList=true:=by
 unfold K9
 rw [Bool.and_eq_true]
 constructor
 ·have:=h 0 h0 h0
  unfold wR at this
  rw [if_pos rfl] at this
  rw [Tk.ql s h0]
  exact this
 ·rw [List.all_eq_true]
  intro c hc
  obtain ⟨j,hj,rfl⟩:=List.getElem_of_mem hc
  have hj':j < s.size:=by rw [Lib.size_eq]; exact hj
  have:=h j hj' hj'
  unfold wR at this
  split at this
  ·exact Jg _ this
  ·exact this
theorem Zd (s:ByteArray) (k:Nat) (hk:k < s.size) (h:wR s k hk=false):K9 s.data.toList=false:=by
 unfold K9
 unfold wR at h
 split at h
 ·rename_i e
  subst e
  have h1:s.data.toList.head?.any Tk.nX=false:=by rw [Tk.ql s hk]; exact h
  rw [h1]; rfl
 ·have h1:s.data.toList.all Tk.fF=false:=by
   rw [List.all_eq_false]
   exact ⟨s[k],List.getElem_mem (by rw [← Lib.size_eq]; exact hk),by rw [h]; decide⟩
  rw [h1,Bool.and_false]
theorem Ve (l:List UInt8):Tk.dZ l=((decide (1≤l.length) && decide (l.length≤12) && !Tk.lq l) && K9 l):=rfl
theorem PO (s:ByteArray) (k:Nat) (hk:k < s.size) (r:Int) (hr:(s[k].toNat < 128∧r=(s[k].toNat:Int))∨(128≤s[k].toNat∧128≤r)):
 (wR s k hk=true∧s[k].toNat < 128∧((97≤r∧r≤122)∨(65≤r∧r≤90)))∨
 (wR s k hk=true∧s[k].toNat < 128∧0 < k∧(r=95∨(48≤r∧r≤57)))∨
 (wR s k hk=false∧ ¬ (97≤r∧r≤122)∧ ¬ (65≤r∧r≤90)∧(k=0∨(0 < k∧r≠95∧ ¬ (48≤r∧r≤57)))):=by
 unfold wR Tk.fF Tk.nX Tk.Xp Tk.oV Tk.nE
 have hc:=s[k].toNat_lt
 generalize s[k].toNat=c at *
 by_cases h1:97≤(c:Int)∧(c:Int)≤122
 ·left; simp [h1]; omega
 ·by_cases h2:65≤(c:Int)∧(c:Int)≤90
  ·left; simp [h2]; omega
  ·by_cases h0:k=0
   ·right; right; simp [h0]; omega
   ·by_cases h3:(c:Int)=95∨(48≤(c:Int)∧(c:Int)≤57)
    ·right; left
     rw [if_neg h0]
     refine ⟨?_,by omega,by omega,by omega⟩
     simp only [Bool.or_eq_true,Bool.and_eq_true,decide_eq_true_eq,beq_iff_eq]
     omega
    ·right; right
     rw [if_neg h0]
     refine ⟨?_,by omega,by omega,by omega⟩
     rw [Bool.eq_false_iff]
     simp only [ne_eq,Bool.or_eq_true,Bool.and_eq_true,decide_eq_true_eq,beq_iff_eq]
     omega
def Yd (w:World) (s:ByteArray) (k:Nat) (wr:World):Prop:=wr=w.iter s k
theorem yC (w:World) (s:ByteArray) (k:Nat):Below w.heap.size w (w.iter s k):=(Below.refl _ _).alloc (Nat.le_refl _) _
theorem uw (s:ByteArray) (w:World) (cZ:cO w) (hm:s.size≤maxLen):
 Calls Tryz.prog 38 #[.string s] w fun e w'=>e= .returned (.bool (Tk.dZ s.data.toList))∧Below w.heap.size w w':=by
 have HN:=Lib.hid (Ve s.data.toList)
 rw [← Lib.size_eq] at HN
 unfold maxLen at hm
 by_cases h1:s.size < 1
 ·have HR:Hid (Tk.dZ s.data.toList=false):=by
   apply Lib.hid; rw [HN.out,show decide (1≤s.size)=false from decide_eq_false (by omega)]; rfl
  clear HN
  go_enter Tryz.func38,Tryz.ntmps38
  go_wp2
  go_ret
  exact ⟨dh HR.out.symm,Below.refl _ _⟩
 ·by_cases h2:12 < s.size
  ·have HR:Hid (Tk.dZ s.data.toList=false):=by
    apply Lib.hid; rw [HN.out,show decide (s.size≤12)=false from by simp; omega]; simp
   clear HN
   go_enter Tryz.func38,Tryz.ntmps38
   go_wp2
   go_ret
   exact ⟨dh HR.out.symm,Below.refl _ _⟩
  ·cases hK:Tk.lq s.data.toList
   ·have HR:Hid (Tk.dZ s.data.toList=K9 s.data.toList):=by
     apply Lib.hid; rw [HN.out,hK,show decide (s.size≤12)=true from by simp; omega,show decide (1≤s.size)=true from by simp; omega]; rfl
    clear HN
    go_enter Tryz.func38,Tryz.ntmps38
    go_wp2_with (go_at_call 71; refine (tF _ _ cZ).mono ?_; rintro e w' ⟨rfl,rfl⟩)
    go_loopw [3] (fun _ wr=> ∃k:Nat,k≤s.size∧Yd w s k wr∧Jk s k) (fun _ wr=>s.size - wr.iterPos w.heap.size)
    case atStart=>exact ⟨0,Nat.zero_le _,rfl,fun j hj h=>absurd h (by omega)⟩
    case round=>
     obtain ⟨k,hk,hit,hok⟩:=hrel
     obtain rfl:wr=w.iter s k:=hit
     by_cases hlt:k < s.size
     ·have hnx:=fun ty=>run_next_any (P:=Tryz.prog) w s k ty hlt
      have hrr:(s[k].toNat < 128∧((Utf8.decode s k).1:Int)=(s[k].toNat:Int))∨(128≤s[k].toNat∧128≤((Utf8.decode s k).1:Int)):=by
       by_cases ha:s[k].toNat < 128
       ·left; exact ⟨ha,by rw [decode_ascii s k hlt ha]⟩
       ·right; have:=decode_high s k hlt (by omega); omega
      have hle:=decode_le s k
      have HD:Hid (s[k].toNat < 128→(Utf8.decode s k).2=1):=Lib.hid fun ha=>by rw [decode_ascii s k hlt ha]
      have parts:=PO s k hlt _ hrr
      clear hrr hK
      generalize (Utf8.decode s k).1=r at *
      generalize (Utf8.decode s k).2=z at *
      rcases parts with ⟨hn,ha,hc⟩ | ⟨hn,ha,hk0,hc⟩ | ⟨hn,hA,hB,hC⟩
      ·have hst:=hok.step hlt hn
       obtain rfl:z=1:=HD.out ha
       clear hn HD
       rcases hc with ⟨q1,q2⟩ | ⟨q1,q2⟩
       all_goals
        go_wp2
        go_roundw
        case rel=>exact ⟨k + 1,by omega,rfl,hst⟩
        case measure=>simp; omega
      ·have hst:=hok.step hlt hn
       obtain rfl:z=1:=HD.out ha
       clear hn HD
       rcases hc with q1 | ⟨q1,q2⟩
       ·have q3:((r:Int) == 95)=true:=by rw [q1]; rfl
        have q4:95≤(r:Int):=by omega
        have q5:(r:Int)≤95:=by omega
        clear q1
        go_wp2
        go_roundw
        case rel=>exact ⟨k + 1,by omega,rfl,hst⟩
        case measure=>simp; omega
       ·have q3:((r:Int) == 95)=false:=by rw [beq_eq_false_iff_ne]; omega
        go_wp2
        go_roundw
        case rel=>exact ⟨k + 1,by omega,rfl,hst⟩
        case measure=>simp; omega
      ·have HF:=Lib.hid (Zd s k hlt hn)
       clear hn HD
       rcases hC with h0 | ⟨hk0,q1,q2⟩
       ·obtain rfl:k=0:=h0
        go_wp2
        all_goals go_ret
        all_goals exact ⟨dh (HR.out.trans HF.out).symm,yC _ _ _⟩
       ·have q3:((r:Int) == 95)=false:=by rw [beq_eq_false_iff_ne]; exact q1
        clear q1
        go_wp2
        all_goals go_ret
        all_goals exact ⟨dh (HR.out.trans HF.out).symm,yC _ _ _⟩
     ·obtain rfl:k=s.size:=by omega
      have hnx:=fun ty=>run_next_end (P:=Tryz.prog) w s s.size ty (by omega)
      have HT:=Lib.hid (Ws s (by omega) hok)
      go_wp2
      go_ret
      exact ⟨dh (HR.out.trans HT.out).symm,yC _ _ _⟩
   ·have HR:Hid (Tk.dZ s.data.toList=false):=by
     apply Lib.hid; rw [HN.out,hK]; simp
    clear HN
    go_enter Tryz.func38,Tryz.ntmps38
    go_wp2_with (go_at_call 71; refine (tF _ _ cZ).mono ?_; rintro e w' ⟨rfl,rfl⟩)
    go_ret
    exact ⟨dh HR.out.symm,Below.refl _ _⟩
end Go.Proofs.YtehnipchbmjlhaaGreatDoor
