/-
  Contract of token.IsName.
  Contracts of the leaf functions of the token layer and of what of package strings it calls.
-/
import Derived.Test.YtehnipchbmjlhaaGreatDoorGTA
import Derived.Deep.QuietTactic
import Derived.BigQuiet
import Derived.Laws.RangeAny
set_option linter.unusedSimpArgs false
set_option linter.unusedVariables false
set_option maxHeartbeats 40000000
set_option maxRecDepth 1000000
section
namespace Go.Proofs.YtehnipchbmjlhaaGreatDoor
open Go.RowKit
def xZ (s:ByteArray) (j:Nat) (h:j < s.size):Bool:=if j=0 then Tk.rY s[j] else Tk.gK s[j]
def JF (s:ByteArray) (k:Nat):Prop:= ∀j (h:j < s.size),j < k→xZ s j h=true
theorem JF.step {s:ByteArray} {k:Nat} (h:JF s k) (hk:k < s.size) (hp:xZ s k hk=true):JF s (k + 1):=by
 intro j hj hjk
 by_cases e:j=k
 ·subst e; exact hp
 ·exact h j hj (by omega)
def Lv (l:List UInt8):Bool:=l.head?.any Tk.rY && l.all Tk.gK
theorem XE (s:ByteArray) (h0:0 < s.size) (h:JF s s.size):Lv s.data.toList=true:=by
 unfold Lv
 rw [Bool.and_eq_true]
 constructor
 ·have:=h 0 h0 h0
  unfold xZ at this
  rw [if_pos rfl] at this
  rw [Tk.qN s h0]
  exact this
 ·rw [List.all_eq_true]
  intro c hc
  obtain ⟨j,hj,rfl⟩:=List.getElem_of_mem hc
  have hj':j < s.size:=by rw [Lib.size_eq]; exact hj
  have:=h j hj' hj'
  unfold xZ at this
  split at this
  ·exact JJ _ this
  ·exact this
theorem aa0 (s:ByteArray) (k:Nat) (hk:k < s.size) (h:xZ s k hk=false):Lv s.data.toList=false:=by
 unfold Lv
 unfold xZ at h
 split at h
 ·rename_i e
  subst e
  have h1:s.data.toList.head?.any Tk.rY=false:=by rw [Tk.qN s hk]; exact h
  rw [h1]; rfl
 ·have h1:s.data.toList.all Tk.gK=false:=by
   rw [List.all_eq_false]
   exact ⟨s[k],List.getElem_mem (by rw [← Lib.size_eq]; exact hk),by rw [h]; decide⟩
  rw [h1,Bool.and_false]
theorem Vy (l:List UInt8):Tk.gM l=((decide (1≤l.length) && decide (l.length≤12) && !Tk.jQ l) && Lv l):=rfl
theorem Tv (s:ByteArray) (k:Nat) (hk:k < s.size) (r:Int) (hr:(s[k].toNat < 128∧r=(s[k].toNat:Int))∨(128≤s[k].toNat∧128≤r)):
 (xZ s k hk=true∧s[k].toNat < 128∧((97≤r∧r≤122)∨(65≤r∧r≤90)))∨
 (xZ s k hk=true∧s[k].toNat < 128∧0 < k∧(r=95∨(48≤r∧r≤57)))∨
 (xZ s k hk=false∧ ¬ (97≤r∧r≤122)∧ ¬ (65≤r∧r≤90)∧(k=0∨(0 < k∧r≠95∧ ¬ (48≤r∧r≤57)))):=by
 unfold xZ Tk.gK Tk.rY Tk.Bb Tk.mU Tk.jF
 have hc:=s[k].toNat_lt
 generalize s[k].toNat=c at *
 by_cases h1:97≤(c:Int)∧(c:Int)≤122
 ·left; simp [h1]; omega
 ·by_cases h2:65≤(c:Int)∧(c:Int)≤90
  ·left; simp [h2]; omega
  ·by_cases h0:k=0
   ·right; right; simp [h0]; omega
   ·by_cases h3:(c:Int)=95∨(48≤(c:Int)∧(c:Int)≤57)
    ·right; left
     rw [if_neg h0]
     refine ⟨?_,by omega,by omega,by omega⟩
     simp only [Bool.or_eq_true,Bool.and_eq_true,decide_eq_true_eq,beq_iff_eq]
     omega
    ·right; right
     rw [if_neg h0]
     refine ⟨?_,by omega,by omega,by omega⟩
     rw [Bool.eq_false_iff]
     simp only [ne_eq,Bool.or_eq_true,Bool.and_eq_true,decide_eq_true_eq,beq_iff_eq]
     omega
def Y8 (w:World) (s:ByteArray) (k:Nat) (wr:World):Prop:=wr=w.iter s k
theorem zw (w:World) (s:ByteArray) (k:Nat):Below w.heap.size w (w.iter s k):=(Below.refl _ _).alloc (Nat.le_refl _) _
theorem uO (s:ByteArray) (w:World) (jJ:eT w) (hm:s.size≤maxLen):
 Calls Tryz.prog 38 #[.string s] w fun e w'=>e= .returned (.bool (Tk.gM s.data.toList))∧Below w.heap.size w w':=by
 have HN:=Lib.hid (Vy s.data.toList)
 rw [← Lib.size_eq] at HN
 unfold maxLen at hm
 by_cases h1:s.size < 1
 ·have HR:Hid (Tk.gM s.data.toList=false):=by
   apply Lib.hid; rw [HN.out,show decide (1≤s.size)=false from decide_eq_false (by omega)]; rfl
  clear HN
  go_enter Tryz.func38,Tryz.ntmps38
  go_wp2
  go_ret
  exact ⟨bG HR.out.symm,Below.refl _ _⟩
 ·by_cases h2:12 < s.size
  ·have HR:Hid (Tk.gM s.data.toList=false):=by
    apply Lib.hid; rw [HN.out,show decide (s.size≤12)=false from by simp; omega]; simp
   clear HN
   go_enter Tryz.func38,Tryz.ntmps38
   go_wp2
   go_ret
   exact ⟨bG HR.out.symm,Below.refl _ _⟩
  ·cases hK:Tk.jQ s.data.toList
   ·have HR:Hid (Tk.gM s.data.toList=Lv s.data.toList):=by
     apply Lib.hid; rw [HN.out,hK,show decide (s.size≤12)=true from by simp; omega,show decide (1≤s.size)=true from by simp; omega]; rfl
    clear HN
    go_enter Tryz.func38,Tryz.ntmps38
    go_wp2_with (go_at_call 71; refine (uw _ _ jJ).mono ?_; rintro e w' ⟨rfl,rfl⟩)
    go_loopw [3] (fun _ wr=> ∃k:Nat,k≤s.size∧Y8 w s k wr∧JF s k) (fun _ wr=>s.size - wr.iterPos w.heap.size)
    case atStart=>exact ⟨0,Nat.zero_le _,rfl,fun j hj h=>absurd h (by omega)⟩
    case round=>
     obtain ⟨k,hk,hit,hok⟩:=hrel
     obtain rfl:wr=w.iter s k:=hit
     by_cases hlt:k < s.size
     ·have hnx:=fun ty=>run_next_any (P:=Tryz.prog) w s k ty hlt
      have hrr:(s[k].toNat < 128∧((Utf8.decode s k).1:Int)=(s[k].toNat:Int))∨(128≤s[k].toNat∧128≤((Utf8.decode s k).1:Int)):=by
       by_cases ha:s[k].toNat < 128
       ·left; exact ⟨ha,by rw [decode_ascii s k hlt ha]⟩
       ·right; have:=decode_high s k hlt (by omega); omega
      have hle:=decode_le s k
      have HD:Hid (s[k].toNat < 128→(Utf8.decode s k).2=1):=Lib.hid fun ha=>by rw [decode_ascii s k hlt ha]
      have parts:=Tv s k hlt _ hrr
      clear hrr hK
      generalize (Utf8.decode s k).1=r at *
      generalize (Utf8.decode s k).2=z at *
      rcases parts with ⟨hn,ha,hc⟩ | ⟨hn,ha,hk0,hc⟩ | ⟨hn,hA,hB,hC⟩
      ·have hst:=hok.step hlt hn
       obtain rfl:z=1:=HD.out ha
       clear hn HD
       rcases hc with ⟨q1,q2⟩ | ⟨q1,q2⟩
       all_goals
        go_wp2
        go_roundw
        case rel=>exact ⟨k + 1,by omega,rfl,hst⟩
        case measure=>simp; omega
      ·have hst:=hok.step hlt hn
       obtain rfl:z=1:=HD.out ha
       clear hn HD
       rcases hc with q1 | ⟨q1,q2⟩
       ·have q3:((r:Int) == 95)=true:=by rw [q1]; rfl
        have q4:95≤(r:Int):=by omega
        have q5:(r:Int)≤95:=by omega
        clear q1
        go_wp2
        go_roundw
        case rel=>exact ⟨k + 1,by omega,rfl,hst⟩
        case measure=>simp; omega
       ·have q3:((r:Int) == 95)=false:=by rw [beq_eq_false_iff_ne]; omega
        go_wp2
        go_roundw
        case rel=>exact ⟨k + 1,by omega,rfl,hst⟩
        case measure=>simp; omega
      ·have HF:=Lib.hid (aa0 s k hlt hn)
       clear hn HD
       rcases hC with h0 | ⟨hk0,q1,q2⟩
       ·obtain rfl:k=0:=h0
        go_wp2
        all_goals go_ret
        all_goals exact ⟨bG (HR.out.trans HF.out).symm,zw _ _ _⟩
       ·have q3:((r:Int) == 95)=false:=by rw [beq_eq_false_iff_ne]; exact q1
        clear q1
        go_wp2
        all_goals go_ret
        all_goals exact ⟨bG (HR.out.trans HF.out).symm,zw _ _ _⟩
     ·obtain rfl:k=s.size:=by omega
      have hnx:=fun ty=>run_next_end (P:=Tryz.prog) w s s.size ty (by omega)
      have HT:=Lib.hid (XE s (by omega) hok)
      go_wp2
      go_ret
      exact ⟨bG (HR.out.trans HT.out).symm,zw _ _ _⟩
   ·have HR:Hid (Tk.gM s.data.toList=false):=by
     apply Lib.hid; rw [HN.out,hK]; simp
    clear HN
    go_enter Tryz.func38,Tryz.ntmps38
    go_wp2_with (go_at_call 71; refine (uw _ _ jJ).mono ?_; rintro e w' ⟨rfl,rfl⟩)
    go_ret
    exact ⟨bG HR.out.symm,Below.refl _ _⟩
end Go.Proofs.YtehnipchbmjlhaaGreatDoor
end
section
namespace Go.Proofs.YtehnipchbmjlhaaGreatDoor
open Go.RowKit
theorem rP (c:Int) (w:World):
 Calls Tryz.prog 73 #[.int .u8 c] w fun e w'=>e= .returned (.bool (Tk.mU c))∧w=w':=by
 unfold Tk.mU
 go_enter Tryz.func73,Tryz.ntmps73
 go_wp2
 all_goals go_ret
 all_goals first | (simp [*]; done) | (simp [*]; omega)
theorem lM (c:Int) (w:World):
 Calls Tryz.prog 78 #[.int .u8 c] w fun e w'=>e= .returned (.bool (Tk.jF c))∧w=w':=by
 unfold Tk.jF
 go_enter Tryz.func78,Tryz.ntmps78
 go_wp2
 all_goals go_ret
 all_goals first | (simp [*]; done) | (simp [*]; omega)
theorem qG (c:Int) (w:World):
 Calls Tryz.prog 75 #[.int .u8 c] w fun e w'=>e= .returned (.bool (Tk.Bb c))∧w=w':=by
 unfold Tk.Bb
 go_enter Tryz.func75,Tryz.ntmps75
 go_wp2_with (first | (go_at_call 73; refine (rP _ _).mono ?_; rintro e w' ⟨rfl,rfl⟩) | (go_at_call 78; refine (lM _ _).mono ?_; rintro e w' ⟨rfl,rfl⟩))
 all_goals go_ret
 all_goals first | (simp [*]; done) | (simp [*]; omega)
end Go.Proofs.YtehnipchbmjlhaaGreatDoor
end
