/-
  Contract of token.IsName.
  Contracts of the leaf functions of the token layer and of what of package strings it calls.
  Contracts of the reference's Keywords, Signs, IsKeyword, IsName, Number, signAt.
-/
import Derived.Test.YtnknfoibmgphnaaDoorGA
import Derived.Deep.QuietTactic
import Derived.BigQuiet
import Derived.Laws.RangeAny
section
namespace Go.Proofs.YtnknfoibmgphnaaDoor
open Go.RowKit
def uX (s:ByteArray) (j:Nat) (h:j < s.size):Bool:=if j=0 then Tk.xY s[j] else Tk.qL s[j]
def Dn (s:ByteArray) (k:Nat):Prop:= ∀j (h:j < s.size),j < k→uX s j h=true
theorem Dn.step {s:ByteArray} {k:Nat} (h:Dn s k) (hk:k < s.size) (hp:uX s k hk=true):Dn s (k + 1):=by
 intro j hj hjk
 by_cases e:j=k
 ·subst e; exact hp
 ·exact h j hj (by omega)
def Cc (l:List UInt8):Bool:=l.head?.any Tk.xY && l.all Tk.qL
theorem Px (s:ByteArray) (h0:0 < s.size) (h:Dn s s.size):Cc s.data.toList=true:=by
 unfold Cc
 rw [Bool.and_eq_true]
 constructor
 ·have:=h 0 h0 h0
  unfold uX at this
  rw [if_pos rfl] at this
  rw [Tk.rF s h0]
  exact this
 ·rw [List.all_eq_true]
  intro c hc
  obtain ⟨j,hj,rfl⟩:=List.getElem_of_mem hc
  have hj':j < s.size:=by rw [Lib.size_eq]; exact hj
  have:=h j hj' hj'
  unfold uX at this
  split at this
  ·exact Jw _ this
  ·exact this
theorem PZ (s:ByteArray) (k:Nat) (hk:k < s.size) (h:uX s k hk=false):Cc s.data.toList=false:=by
 unfold Cc
 unfold uX at h
 split at h
 ·rename_i e
  subst e
  have h1:s.data.toList.head?.any Tk.xY=false:=by rw [Tk.rF s hk]; exact h
  rw [h1]; rfl
 ·have h1:s.data.toList.all Tk.qL=false:=by
   rw [List.all_eq_false]
   exact ⟨s[k],List.getElem_mem (by rw [← Lib.size_eq]; exact hk),by rw [h]; decide⟩
  rw [h1,Bool.and_false]
theorem FP (l:List UInt8):Tk.iM l=((decide (1≤l.length) && decide (l.length≤12) && !Tk.uz l) && Cc l):=rfl
theorem JR (s:ByteArray) (k:Nat) (hk:k < s.size) (r:Int) (hr:(s[k].toNat < 128∧r=(s[k].toNat:Int))∨(128≤s[k].toNat∧128≤r)):
 (uX s k hk=true∧s[k].toNat < 128∧((97≤r∧r≤122)∨(65≤r∧r≤90)))∨
 (uX s k hk=true∧s[k].toNat < 128∧0 < k∧(r=95∨(48≤r∧r≤57)))∨
 (uX s k hk=false∧ ¬ (97≤r∧r≤122)∧ ¬ (65≤r∧r≤90)∧(k=0∨(0 < k∧r≠95∧ ¬ (48≤r∧r≤57)))):=by
 unfold uX Tk.qL Tk.xY Tk.AZ Tk.zO Tk.Dz
 have hc:=s[k].toNat_lt
 generalize s[k].toNat=c at *
 by_cases h1:97≤(c:Int)∧(c:Int)≤122
 ·left; simp [h1]; omega
 ·by_cases h2:65≤(c:Int)∧(c:Int)≤90
  ·left; simp [h2]; omega
  ·by_cases h0:k=0
   ·right; right; simp [h0]; omega
   ·by_cases h3:(c:Int)=95∨(48≤(c:Int)∧(c:Int)≤57)
    ·right; left
     rw [if_neg h0]
     refine ⟨?_,by omega,by omega,by omega⟩
     simp only [Bool.or_eq_true,Bool.and_eq_true,decide_eq_true_eq,beq_iff_eq]
     omega
    ·right; right
     rw [if_neg h0]
     refine ⟨?_,by omega,by omega,by omega⟩
     rw [Bool.eq_false_iff]
     simp only [ne_eq,Bool.or_eq_true,Bool.and_eq_true,decide_eq_true_eq,beq_iff_eq]
     omega
def O7 (w:World) (s:ByteArray) (k:Nat) (wr:World):Prop:=wr=w.iter s k
theorem wC (w:World) (s:ByteArray) (k:Nat):Below w.heap.size w (w.iter s k):=(Below.refl _ _).alloc (Nat.le_refl _) _
set_option maxHeartbeats 2000000 in
theorem sM (s:ByteArray) (w:World) (dL:dZ w) (hm:s.size≤maxLen):
 Calls Tryd.prog 24 #[.string s] w fun e w'=>e= .returned (.bool (Tk.iM s.data.toList))∧Below w.heap.size w w':=by
 have HN:=Lib.hid (FP s.data.toList)
 rw [← Lib.size_eq] at HN
 unfold maxLen at hm
 by_cases h1:s.size < 1
 ·have HR:Hid (Tk.iM s.data.toList=false):=by
   apply Lib.hid; rw [HN.out,show decide (1≤s.size)=false from decide_eq_false (by omega)]; rfl
  clear HN
  go_enter Tryd.func24,Tryd.ntmps24
  go_wp2
  go_ret
  exact ⟨aW HR.out.symm,Below.refl _ _⟩
 ·by_cases h2:12 < s.size
  ·have HR:Hid (Tk.iM s.data.toList=false):=by
    apply Lib.hid; rw [HN.out,show decide (s.size≤12)=false from by simp; omega]; simp
   clear HN
   go_enter Tryd.func24,Tryd.ntmps24
   go_wp2
   go_ret
   exact ⟨aW HR.out.symm,Below.refl _ _⟩
  ·cases hK:Tk.uz s.data.toList
   ·have HR:Hid (Tk.iM s.data.toList=Cc s.data.toList):=by
     apply Lib.hid; rw [HN.out,hK,show decide (s.size≤12)=true from by simp; omega,show decide (1≤s.size)=true from by simp; omega]; rfl
    clear HN
    go_enter Tryd.func24,Tryd.ntmps24
    go_wp2_with (go_at_call 41; refine (wV _ _ dL).mono ?_; rintro e w' ⟨rfl,rfl⟩)
    go_loopw [3] (fun _ wr=> ∃k:Nat,k≤s.size∧O7 w s k wr∧Dn s k) (fun _ wr=>s.size - wr.iterPos w.heap.size)
    case atStart=>exact ⟨0,Nat.zero_le _,rfl,fun j hj h=>absurd h (by omega)⟩
    case round=>
     obtain ⟨k,hk,hit,hok⟩:=hrel
     obtain rfl:wr=w.iter s k:=hit
     by_cases hlt:k < s.size
     ·have hnx:=fun ty=>run_next_any (P:=Tryd.prog) w s k ty hlt
      have hrr:(s[k].toNat < 128∧((Utf8.decode s k).1:Int)=(s[k].toNat:Int))∨(128≤s[k].toNat∧128≤((Utf8.decode s k).1:Int)):=by
       by_cases ha:s[k].toNat < 128
       ·left; exact ⟨ha,by rw [decode_ascii s k hlt ha]⟩
       ·right; have:=decode_high s k hlt (by omega); omega
      have hle:=decode_le s k
      have HD:Hid (s[k].toNat < 128→(Utf8.decode s k).2=1):=Lib.hid fun ha=>by rw [decode_ascii s k hlt ha]
      have parts:=JR s k hlt _ hrr
      clear hrr hK
      generalize (Utf8.decode s k).1=r at *
      generalize (Utf8.decode s k).2=z at *
      rcases parts with ⟨hn,ha,hc⟩ | ⟨hn,ha,hk0,hc⟩ | ⟨hn,hA,hB,hC⟩
      ·have hst:=hok.step hlt hn
       obtain rfl:z=1:=HD.out ha
       clear hn HD
       rcases hc with ⟨q1,q2⟩ | ⟨q1,q2⟩
       all_goals
        go_wp2
        go_roundw
        case rel=>exact ⟨k + 1,by omega,rfl,hst⟩
        case measure=>simp; omega
      ·have hst:=hok.step hlt hn
       obtain rfl:z=1:=HD.out ha
       clear hn HD
       rcases hc with q1 | ⟨q1,q2⟩
       ·have q3:((r:Int) == 95)=true:=by rw [q1]; rfl
        have q4:95≤(r:Int):=by omega
        have q5:(r:Int)≤95:=by omega
        clear q1
        go_wp2
        go_roundw
        case rel=>exact ⟨k + 1,by omega,rfl,hst⟩
        case measure=>simp; omega
       ·have q3:((r:Int) == 95)=false:=by rw [beq_eq_false_iff_ne]; omega
        go_wp2
        go_roundw
        case rel=>exact ⟨k + 1,by omega,rfl,hst⟩
        case measure=>simp; omega
      ·have HF:=Lib.hid (PZ s k hlt hn)
       clear hn HD
       rcases hC with h0 | ⟨hk0,q1,q2⟩
       ·obtain rfl:k=0:=h0
        go_wp2
        all_goals go_ret
        all_goals exact ⟨aW (HR.out.trans HF.out).symm,wC _ _ _⟩
       ·have q3:((r:Int) == 95)=false:=by rw [beq_eq_false_iff_ne]; exact q1
        clear q1
        go_wp2
        all_goals go_ret
        all_goals exact ⟨aW (HR.out.trans HF.out).symm,wC _ _ _⟩
     ·obtain rfl:k=s.size:=by omega
      have hnx:=fun ty=>run_next_end (P:=Tryd.prog) w s s.size ty (by omega)
      have HT:=Lib.hid (Px s (by omega) hok)
      go_wp2
      go_ret
      exact ⟨aW (HR.out.trans HT.out).symm,wC _ _ _⟩
   ·have HR:Hid (Tk.iM s.data.toList=false):=by
     apply Lib.hid; rw [HN.out,hK]; simp
    clear HN
    go_enter Tryd.func24,Tryd.ntmps24
    go_wp2_with (go_at_call 41; refine (wV _ _ dL).mono ?_; rintro e w' ⟨rfl,rfl⟩)
    go_ret
    exact ⟨aW HR.out.symm,Below.refl _ _⟩
end Go.Proofs.YtnknfoibmgphnaaDoor
end
section
namespace Go.Proofs.YtnknfoibmgphnaaDoor
open Go.RowKit
theorem sQ (c:Int) (w:World):
 Calls Tryd.prog 44 #[.int .u8 c] w fun e w'=>e= .returned (.bool (Tk.zO c))∧w=w':=by
 unfold Tk.zO
 go_enter Tryd.func44,Tryd.ntmps44
 go_wp2
 all_goals go_ret
 all_goals first | (simp [*]; done) | (simp [*]; omega)
theorem I6 (c:Int) (w:World):
 Calls Tryd.prog 67 #[.int .u8 c] w fun e w'=>e= .returned (.bool (Tk.Dz c))∧w=w':=by
 unfold Tk.Dz
 go_enter Tryd.func67,Tryd.ntmps67
 go_wp2
 all_goals go_ret
 all_goals first | (simp [*]; done) | (simp [*]; omega)
theorem Cj (c:Int) (w:World):
 Calls Tryd.prog 46 #[.int .u8 c] w fun e w'=>e= .returned (.bool (Tk.AZ c))∧w=w':=by
 unfold Tk.AZ
 go_enter Tryd.func46,Tryd.ntmps46
 go_wp2_with (first | (go_at_call 44; refine (sQ _ _).mono ?_; rintro e w' ⟨rfl,rfl⟩) | (go_at_call 67; refine (I6 _ _).mono ?_; rintro e w' ⟨rfl,rfl⟩))
 all_goals go_ret
 all_goals first | (simp [*]; done) | (simp [*]; omega)
end Go.Proofs.YtnknfoibmgphnaaDoor
end
section
namespace Go.Proofs.YtnknfoibmgphnaaDoor
open Go.RowKit
def zI:List Value:=Tk.xP.map fun l=>Value.string ⟨l.toArray⟩
theorem EH (k:Nat) (h:k < 22):zI[k]? =some (.string (Az k)):=by
 have hl:Tk.xP.length=22:=rfl
 unfold zI Az
 rw [List.getElem?_map,List.getElem?_eq_getElem (by omega),Dm k (by omega)]
 rfl
set_option maxRecDepth 100000 in
theorem Ee (w:World):
 Calls Tryd.prog 66 #[] w fun e w'=>e= .returned (.slice (some ⟨w.heap.size,0,none⟩) 22 22)∧w.alloc (.cells zI.toArray 9)=w':=by
 go_enter Tryd.func66,Tryd.ntmps66
 go_wp2
 go_ret
 exact ⟨rfl,rfl⟩
set_option maxHeartbeats 400000 in
theorem tZ (s:ByteArray) (w:World):
 Calls Tryd.prog 45 #[.string s] w fun e w'=>e= .returned (.bool (Tk.uz s.data.toList))∧Below w.heap.size w w':=by
 rw [← Lib.toList_data]
 go_enter Tryd.func45,Tryd.ntmps45
 go_wp2_with fail
 refine (Ee _).mono ?_
 rintro e w1 ⟨rfl,hw⟩
 have hcell: ∀k,k < 22→w1.cell? ⟨w.heap.size,k,none⟩=some (.string (Az k)):=fun k hk=>by
  rw [← hw,Br,EH k hk]
 have HB:Hid (Below w.heap.size w w1):=Lib.hid (by rw [← hw]; exact (Below.refl _ _).alloc (Nat.le_refl _) _)
 have HC:=Lib.hid hcell
 clear hw hcell
 go_wp2
 go_loop [4] (fun i=> ∃k:Nat,k≤22∧i= .int .i64 k∧Eh s.toList k) (fun i=>22 - (intOf i).toNat)
 case atStart=>exact ⟨0,Nat.zero_le _,rfl,fun j hj=>absurd hj (by omega)⟩
 case round=>
  obtain ⟨k,hk,rfl,hno⟩:=hrel
  by_cases hlt:k < 22
  ·have hix:=HC.out k hlt
   have hat:=yZ k
   by_cases he:(s.toList == tX k)=true
   ·have he2:(tX k == s.toList)=true:=by rw [beq_iff_eq] at he ⊢; exact he.symm
    have HY:=Lib.hid (Ht k hlt _ he)
    clear he
    go_wp2
    go_ret
    exact ⟨aW HY.out.symm,HB.out⟩
   ·have he':(s.toList == tX k)=false:=by simpa using he
    have he2:(tX k == s.toList)=false:=by rw [beq_eq_false_iff_ne] at he' ⊢; exact he'.symm
    have hst:=hno.step he'
    clear he he'
    go_wp2
    go_round
    case rel=>exact ⟨k + 1,by omega,by go_num,hst⟩
    case measure=>simp [intOf]; omega
  ·obtain rfl:k=22:=by omega
   go_wp2
   go_ret
   exact ⟨aW (Lb _ hno).symm,HB.out⟩
def Dl (s:ByteArray) (k:Nat):Prop:= ∀j (h:j < s.size),j < k→Tk.qL s[j]=true
theorem Kv (s:ByteArray) (h:Dl s s.size):s.data.toList.all Tk.qL=true:=by
 rw [List.all_eq_true]
 intro c hc
 obtain ⟨j,hj,rfl⟩:=List.getElem_of_mem hc
 have hj':j < s.size:=by rw [Lib.size_eq]; exact hj
 exact h j hj' hj'
theorem ML (s:ByteArray) (k:Nat) (hk:k < s.size) (h:Tk.qL s[k]=false):s.data.toList.all Tk.qL=false:=by
 rw [List.all_eq_false]
 exact ⟨s[k],List.getElem_mem (by rw [← Lib.size_eq]; exact hk),by rw [h]; decide⟩
theorem Dl.step {s:ByteArray} {k:Nat} (h:Dl s k) (hk:k < s.size) (hp:Tk.qL s[k]=true):Dl s (k + 1):=by
 intro j hj hjk
 by_cases e:j=k
 ·subst e; exact hp
 ·exact h j hj (by omega)
set_option maxHeartbeats 2000000 in
theorem jZ (s:ByteArray) (w:World) (hm:s.size≤maxLen):
 Calls Tryd.prog 34 #[.string s] w fun e w'=>e= .returned (.bool (Tk.iM s.data.toList))∧Below w.heap.size w w':=by
 have HN:=Lib.hid (FP s.data.toList)
 rw [← Lib.size_eq] at HN
 unfold maxLen at hm
 by_cases h1:s.size < 1
 ·have HR:Hid (Tk.iM s.data.toList=false):=by
   apply Lib.hid; rw [HN.out,show decide (1≤s.size)=false from decide_eq_false (by omega)]; rfl
  clear HN
  go_enter Tryd.func34,Tryd.ntmps34
  go_wp2
  go_ret
  exact ⟨aW HR.out.symm,Below.refl _ _⟩
 ·by_cases h2:12 < s.size
  ·have HR:Hid (Tk.iM s.data.toList=false):=by
    apply Lib.hid; rw [HN.out,show decide (s.size≤12)=false from decide_eq_false (by omega)]; simp
   clear HN
   go_enter Tryd.func34,Tryd.ntmps34
   go_wp2
   go_ret
   exact ⟨aW HR.out.symm,Below.refl _ _⟩
  ·have h0:0 < s.size:=by omega
   have hhd:s.data.toList.head?.any Tk.xY=Tk.xY s[0]:=by rw [Tk.rF s h0]; rfl
   cases hL:Tk.xY s[0]
   ·have HR:Hid (Tk.iM s.data.toList=false):=by
     apply Lib.hid; rw [HN.out]; unfold Cc; rw [hhd,hL]; simp
    have hL':Tk.zO (s[0].toNat:Int)=false:=hL
    clear HN hhd
    go_enter Tryd.func34,Tryd.ntmps34
    go_wp2_with (go_at_call 44; refine (sQ _ _).mono ?_; rintro e w' ⟨rfl,rfl⟩)
    go_ret
    exact ⟨aW HR.out.symm,Below.refl _ _⟩
   ·have hL':Tk.zO (s[0].toNat:Int)=true:=hL
    cases hK:Tk.uz s.data.toList
    ·have HR:Hid (Tk.iM s.data.toList=s.data.toList.all Tk.qL):=by
      apply Lib.hid; rw [HN.out]; unfold Cc; rw [hhd,hL,hK,show decide (s.size≤12)=true from by simp; omega,show decide (1≤s.size)=true from by simp; omega]; rfl
     clear HN hhd hL
     go_enter Tryd.func34,Tryd.ntmps34
     go_wp2_with (first | (go_at_call 44; refine (sQ _ _).mono ?_; rintro e w' ⟨rfl,rfl⟩) | (go_at_call 45; refine (tZ _ _).mono ?_; rintro e w1 ⟨rfl,hb1⟩))
     have HB:=Lib.hid hb1
     clear hb1
     go_loop [3] (fun i=> ∃k:Nat,k≤s.size∧i= .int .i64 k∧Dl s k) (fun i=>s.size - (intOf i).toNat)
     case atStart=>exact ⟨0,Nat.zero_le _,rfl,fun j hj h=>absurd h (by omega)⟩
     case round=>
      obtain ⟨k,hk,rfl,hok⟩:=hrel
      by_cases hlt:k < s.size
      ·cases hi:Tk.qL s[k]
       ·have hi':Tk.AZ (s[k].toNat:Int)=false:=hi
        have HF:=Lib.hid (ML s k hlt hi)
        clear hi
        go_wp2_with (go_at_call 46; refine (Cj _ _).mono ?_; rintro e w' ⟨rfl,rfl⟩)
        go_ret
        exact ⟨aW (HR.out.trans HF.out).symm,HB.out⟩
       ·have hi':Tk.AZ (s[k].toNat:Int)=true:=hi
        have hst:=hok.step hlt hi
        clear hi
        go_wp2_with (go_at_call 46; refine (Cj _ _).mono ?_; rintro e w' ⟨rfl,rfl⟩)
        go_round
        case rel=>exact ⟨k + 1,by omega,by go_num,hst⟩
        case measure=>simp [intOf]; omega
      ·obtain rfl:k=s.size:=by omega
       have HT:=Lib.hid (Kv s hok)
       go_wp2
       go_ret
       exact ⟨aW (HR.out.trans HT.out).symm,HB.out⟩
    ·have HR:Hid (Tk.iM s.data.toList=false):=by
      apply Lib.hid; rw [HN.out,hK]; simp
     clear HN hhd hL
     go_enter Tryd.func34,Tryd.ntmps34
     go_wp2_with (first | (go_at_call 44; refine (sQ _ _).mono ?_; rintro e w' ⟨rfl,rfl⟩) | (go_at_call 45; refine (tZ _ _).mono ?_; rintro e w1 ⟨rfl,hb1⟩))
     go_ret
     exact ⟨aW HR.out.symm,hb1⟩
end Go.Proofs.YtnknfoibmgphnaaDoor
end
