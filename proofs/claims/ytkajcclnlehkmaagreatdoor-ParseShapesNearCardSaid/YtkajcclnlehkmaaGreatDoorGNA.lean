/- Contract of token.IsName. And what hangs on it. -/
import Derived.Test.YtkajcclnlehkmaaGreatDoorGA
import Derived.Deep.QuietTactic
import Derived.BigQuiet
import Derived.Laws.RangeAny
set_option linter.unusedSimpArgs false
set_option linter.unusedVariables false
set_option maxHeartbeats 40000000
set_option maxRecDepth 1000000
namespace Go.Proofs.YtkajcclnlehkmaaGreatDoor
open Go.RowKit
def rP (s:ByteArray) (j:Nat) (h:j < s.size):Bool:=if j=0 then Tk.oo s[j] else Tk.eU s[j]
def Ca (s:ByteArray) (k:Nat):Prop:= ∀j (h:j < s.size),j < k->rP s j h=true
theorem Ca.step {s:ByteArray} {k:Nat} (h:Ca s k) (hk:k < s.size) (hp:rP s k hk=true):Ca s (k + 1):=by
 intro j hj hjk;by_cases e:j=k
 ·subst e; exact hp
 ·exact h j hj (by omega)
def Bb (l:List UInt8):Bool:=l.head?.any Tk.oo && l.all Tk.eU
theorem P7 (s:ByteArray) (h0:0 < s.size) (h:Ca s s.size):Bb s.data.toList=true:=by
 unfold Bb;rw [Bool.and_eq_true];constructor
 ·have:=h 0 h0 h0;unfold rP at this;rw [if_pos rfl] at this;rw [Tk.kW s h0];exact this
 ·rw [List.all_eq_true];intro c hc;obtain ⟨j,hj,rfl⟩:=List.getElem_of_mem hc;have hj':j < s.size:=by rw [Lib.size_eq]; exact hj
  have:=h j hj' hj';unfold rP at this;split at this
  ·exact CO _ this
  ·exact this
theorem Qo (s:ByteArray) (k:Nat) (hk:k < s.size) (h:rP s k hk=false):Bb s.data.toList=false:=by
 unfold Bb;unfold rP at h;split at h
 ·rename_i e;subst e;have h1:s.data.toList.head?.any Tk.oo=false:=by rw [Tk.kW s hk]; exact h
  rw [h1]; rfl
 ·have h1:s.data.toList.all Tk.eU=false:=by rw [List.all_eq_false];exact ⟨s[k],List.getElem_mem (by rw [<- Lib.size_eq]; exact hk),by rw [h]; decide⟩
  rw [h1,Bool.and_false]
theorem EH (l:List UInt8):Tk.cO l=((decide (1<=l.length) && decide (l.length<=12) && !Tk.kg l) && Bb l):=rfl
theorem JL (s:ByteArray) (k:Nat) (hk:k < s.size) (r:Int) (hr:(s[k].toNat < 128∧r=(s[k].toNat:Int))∨(128<=s[k].toNat∧128<=r)):
 (rP s k hk=true∧s[k].toNat < 128∧((97<=r∧r<=122)∨(65<=r∧r<=90)))∨
 (rP s k hk=true∧s[k].toNat < 128∧0 < k∧(r=95∨(48<=r∧r<=57)))∨
 (rP s k hk=false∧ ¬ (97<=r∧r<=122)∧ ¬ (65<=r∧r<=90)∧(k=0∨(0 < k∧r≠95∧ ¬ (48<=r∧r<=57)))):=by
 unfold rP Tk.eU Tk.oo Tk.zK Tk.ko Tk.jL;have hc:=s[k].toNat_lt;generalize s[k].toNat=c at *;by_cases h1:97<=(c:Int)∧(c:Int)<=122
 ·left; simp [h1]; omega
 ·by_cases h2:65<=(c:Int)∧(c:Int)<=90
  ·left; simp [h2]; omega
  ·by_cases h0:k=0
   ·right; right; simp [h0]; omega
   ·by_cases h3:(c:Int)=95∨(48<=(c:Int)∧(c:Int)<=57)
    ·right; left;rw [if_neg h0];refine ⟨?_,by omega,by omega,by omega⟩;simp only [Bool.or_eq_true,Bool.and_eq_true,decide_eq_true_eq,beq_iff_eq];omega
    ·right; right;rw [if_neg h0];refine ⟨?_,by omega,by omega,by omega⟩;rw [Bool.eq_false_iff];simp only [ne_eq,Bool.or_eq_true,Bool.and_eq_true,decide_eq_true_eq,beq_iff_eq];omega
def NH (w:World) (s:ByteArray) (k:Nat) (wr:World):Prop:=wr=w.iter s k
theorem tF (w:World) (s:ByteArray) (k:Nat):Below w.heap.size w (w.iter s k):=(Below.refl _ _).alloc (Nat.le_refl _) _
theorem oZ (s:ByteArray) (w:World) (gK:dx w) (hm:s.size<=maxLen):
 Calls Tryz.prog 14 #[.string s] w fun e w'=>e= .returned (.bool (Tk.cO s.data.toList))∧Below w.heap.size w w':=by
 have HN:=ah (EH s.data.toList);rw [<- Lib.size_eq] at HN;unfold maxLen at hm;by_cases h1:s.size < 1
 ·have HR:aj (Tk.cO s.data.toList=false):=by apply ah; rw [HN.o,show decide (1<=s.size)=false from decide_eq_false (by omega)]; rfl
  clear HN;go_enter Tryz.func14,Tryz.ntmps14;go_wp2;go_ret;exact ⟨aI HR.o.symm,Below.refl _ _⟩
 ·by_cases h2:12 < s.size
  ·have HR:aj (Tk.cO s.data.toList=false):=by apply ah; rw [HN.o,show decide (s.size<=12)=false from by simp; omega]; simp
   clear HN;go_enter Tryz.func14,Tryz.ntmps14;go_wp2;go_ret;exact ⟨aI HR.o.symm,Below.refl _ _⟩
  ·cases hK:Tk.kg s.data.toList
   ·have HR:aj (Tk.cO s.data.toList=Bb s.data.toList):=(by apply ah; rw [HN.o,hK,show decide (s.size<=12)=true from by simp; omega,show decide (1<=s.size)=true from by simp; omega]; rfl);clear HN;go_enter Tryz.func14,Tryz.ntmps14;go_wp2_with (go_at_call 24; refine (oH _ _ gK).mono ?_; rintro e w' ⟨rfl,rfl⟩);go_loopw [3] (fun _ wr=> ∃k:Nat,k<=s.size∧NH w s k wr∧Ca s k) (fun _ wr=>s.size - wr.iterPos w.heap.size)
    case atStart=>exact ⟨0,Nat.zero_le _,rfl,fun j hj h=>absurd h (by omega)⟩
    case round=>
     obtain ⟨k,hk,hit,hok⟩:=hrel;obtain rfl:wr=w.iter s k:=hit;by_cases hlt:k < s.size
     ·have hnx:=fun ty=>run_next_any (P:=Tryz.prog) w s k ty hlt;have hrr:(s[k].toNat < 128∧((Utf8.decode s k).1:Int)=(s[k].toNat:Int))∨(128<=s[k].toNat∧128<=((Utf8.decode s k).1:Int)):=by
       by_cases ha:s[k].toNat < 128
       ·left; exact ⟨ha,by rw [decode_ascii s k hlt ha]⟩
       ·right; have:=decode_high s k hlt (by omega); omega
      have hle:=decode_le s k;have HD:aj (s[k].toNat < 128->(Utf8.decode s k).2=1):=ah fun ha=>by rw [decode_ascii s k hlt ha]
      have parts:=JL s k hlt _ hrr;clear hrr hK;generalize (Utf8.decode s k).1=r at *;generalize (Utf8.decode s k).2=z at *;rcases parts with ⟨hn,ha,hc⟩ | ⟨hn,ha,hk0,hc⟩ | ⟨hn,hA,hB,hC⟩
      ·have hst:=hok.step hlt hn;obtain rfl:z=1:=HD.o ha;clear hn HD;rcases hc with ⟨q1,q2⟩ | ⟨q1,q2⟩
       all_goals
        go_wp2;go_roundw
        case rel=>exact ⟨k + 1,by omega,rfl,hst⟩
        case measure=>simp; omega
      ·have hst:=hok.step hlt hn;obtain rfl:z=1:=HD.o ha;clear hn HD;rcases hc with q1 | ⟨q1,q2⟩
       ·have q3:((r:Int) == 95)=true:=(by rw [q1]; rfl);have q4:95<=(r:Int):=(by omega);have q5:(r:Int)<=95:=(by omega);clear q1;go_wp2;go_roundw
        case rel=>exact ⟨k + 1,by omega,rfl,hst⟩
        case measure=>simp; omega
       ·have q3:((r:Int) == 95)=false:=(by rw [beq_eq_false_iff_ne]; omega);go_wp2;go_roundw
        case rel=>exact ⟨k + 1,by omega,rfl,hst⟩
        case measure=>simp; omega
      ·have HF:=ah (Qo s k hlt hn);clear hn HD;rcases hC with h0 | ⟨hk0,q1,q2⟩
       ·obtain rfl:k=0:=h0;go_wp2
        all_goals go_ret
        all_goals exact ⟨aI (HR.o.trans HF.o).symm,tF _ _ _⟩
       ·have q3:((r:Int) == 95)=false:=(by rw [beq_eq_false_iff_ne]; exact q1);clear q1;go_wp2
        all_goals go_ret
        all_goals exact ⟨aI (HR.o.trans HF.o).symm,tF _ _ _⟩
     ·obtain rfl:k=s.size:=(by omega);have hnx:=fun ty=>run_next_end (P:=Tryz.prog) w s s.size ty (by omega);have HT:=ah (P7 s (by omega) hok);go_wp2;go_ret;exact ⟨aI (HR.o.trans HT.o).symm,tF _ _ _⟩
   ·have HR:aj (Tk.cO s.data.toList=false):=(by apply ah; rw [HN.o,hK]; simp);clear HN;go_enter Tryz.func14,Tryz.ntmps14;go_wp2_with (go_at_call 24; refine (oH _ _ gK).mono ?_; rintro e w' ⟨rfl,rfl⟩);go_ret;exact ⟨aI HR.o.symm,Below.refl _ _⟩
theorem pq (c:Int) (w:World):
 Calls Tryz.prog 26 #[.int .u8 c] w fun e w'=>e= .returned (.bool (Tk.ko c))∧w=w':=by
 unfold Tk.ko;go_enter Tryz.func26,Tryz.ntmps26;go_wp2
 all_goals go_ret
 all_goals first | (simp [*]; done) | (simp [*]; omega)
theorem G6 (c:Int) (w:World):
 Calls Tryz.prog 40 #[.int .u8 c] w fun e w'=>e= .returned (.bool (Tk.jL c))∧w=w':=by
 unfold Tk.jL;go_enter Tryz.func40,Tryz.ntmps40;go_wp2
 all_goals go_ret
 all_goals first | (simp [*]; done) | (simp [*]; omega)
theorem AV (c:Int) (w:World):
 Calls Tryz.prog 28 #[.int .u8 c] w fun e w'=>e= .returned (.bool (Tk.zK c))∧w=w':=by
 unfold Tk.zK;go_enter Tryz.func28,Tryz.ntmps28;go_wp2_with (first | (go_at_call 26; refine (pq _ _).mono ?_; rintro e w' ⟨rfl,rfl⟩) | (go_at_call 40; refine (G6 _ _).mono ?_; rintro e w' ⟨rfl,rfl⟩))
 all_goals go_ret
 all_goals first | (simp [*]; done) | (simp [*]; omega)
def xL:List Value:=Tk.vH.map fun l=>Value.string ⟨l.toArray⟩
theorem DF (k:Nat) (h:k < 22):xL[k]? =some (.string (zL k)):=by
 have hl:Tk.vH.length=22:=rfl;unfold xL zL;rw [List.getElem?_map,List.getElem?_eq_getElem (by omega),CQ k (by omega)];rfl
theorem C9 (w:World):
 Calls Tryz.prog 39 #[] w fun e w'=>e= .returned (.slice (some ⟨w.heap.size,0,none⟩) 22 22)∧w.alloc (.cells xL.toArray 9)=w':=by
 go_enter Tryz.func39,Tryz.ntmps39;go_wp2;go_ret;exact ⟨rfl,rfl⟩
theorem qj (s:ByteArray) (w:World):
 Calls Tryz.prog 27 #[.string s] w fun e w'=>e= .returned (.bool (Tk.kg s.data.toList))∧Below w.heap.size w w':=by
 rw [<- Lib.toList_data];go_enter Tryz.func27,Tryz.ntmps27;go_wp2_with fail;refine (C9 _).mono ?_;rintro e w1 ⟨rfl,hw⟩;have hcell: ∀k,k < 22->w1.cell? ⟨w.heap.size,k,none⟩=some (.string (zL k)):=fun k hk=>by rw [<- hw,AY,DF k hk]
 have HB:aj (Below w.heap.size w w1):=ah (by rw [<- hw]; exact (Below.refl _ _).alloc (Nat.le_refl _) _);have HC:=ah hcell;clear hw hcell;go_wp2;go_loop [4] (fun i=> ∃k:Nat,k<=22∧i= .int .i64 k∧Cb s.toList k) (fun i=>22 - (intOf i).toNat)
 case atStart=>exact ⟨0,Nat.zero_le _,rfl,fun j hj=>absurd hj (by omega)⟩
 case round=>
  obtain ⟨k,hk,rfl,hno⟩:=hrel;by_cases hlt:k < 22
  ·have hix:=HC.o k hlt;have hat:=wU k;by_cases he:(s.toList == qz k)=true
   ·have he2:(qz k == s.toList)=true:=(by rw [beq_iff_eq] at he ⊢; exact he.symm);have HY:=ah (Ih k hlt _ he);clear he;go_wp2;go_ret;exact ⟨aI HY.o.symm,HB.o⟩
   ·have he':(s.toList == qz k)=false:=(by simpa using he);have he2:(qz k == s.toList)=false:=(by rw [beq_eq_false_iff_ne] at he' ⊢; exact he'.symm);have hst:=hno.step he';clear he he';go_wp2;go_round
    case rel=>exact ⟨k + 1,by omega,by go_num,hst⟩
    case measure=>simp [intOf]; omega
  ·obtain rfl:k=22:=by omega
   go_wp2;go_ret;exact ⟨aI (Lc _ hno).symm,HB.o⟩
def BA (s:ByteArray) (k:Nat):Prop:= ∀j (h:j < s.size),j < k->Tk.eU s[j]=true
theorem Jd (s:ByteArray) (h:BA s s.size):s.data.toList.all Tk.eU=true:=by
 rw [List.all_eq_true];intro c hc;obtain ⟨j,hj,rfl⟩:=List.getElem_of_mem hc;have hj':j < s.size:=by rw [Lib.size_eq]; exact hj
 exact h j hj' hj'
theorem Lu (s:ByteArray) (k:Nat) (hk:k < s.size) (h:Tk.eU s[k]=false):s.data.toList.all Tk.eU=false:=by
 rw [List.all_eq_false];exact ⟨s[k],List.getElem_mem (by rw [<- Lib.size_eq]; exact hk),by rw [h]; decide⟩
theorem BA.step {s:ByteArray} {k:Nat} (h:BA s k) (hk:k < s.size) (hp:Tk.eU s[k]=true):BA s (k + 1):=by
 intro j hj hjk;by_cases e:j=k
 ·subst e; exact hp
 ·exact h j hj (by omega)
theorem gU (s:ByteArray) (w:World) (hm:s.size<=maxLen):
 Calls Tryz.prog 17 #[.string s] w fun e w'=>e= .returned (.bool (Tk.cO s.data.toList))∧Below w.heap.size w w':=by
 have HN:=ah (EH s.data.toList);rw [<- Lib.size_eq] at HN;unfold maxLen at hm;by_cases h1:s.size < 1
 ·have HR:aj (Tk.cO s.data.toList=false):=by apply ah; rw [HN.o,show decide (1<=s.size)=false from decide_eq_false (by omega)]; rfl
  clear HN;go_enter Tryz.func17,Tryz.ntmps17;go_wp2;go_ret;exact ⟨aI HR.o.symm,Below.refl _ _⟩
 ·by_cases h2:12 < s.size
  ·have HR:aj (Tk.cO s.data.toList=false):=by apply ah; rw [HN.o,show decide (s.size<=12)=false from decide_eq_false (by omega)]; simp
   clear HN;go_enter Tryz.func17,Tryz.ntmps17;go_wp2;go_ret;exact ⟨aI HR.o.symm,Below.refl _ _⟩
  ·have h0:0 < s.size:=by omega
   have hhd:s.data.toList.head?.any Tk.oo=Tk.oo s[0]:=by rw [Tk.kW s h0]; rfl
   cases hL:Tk.oo s[0]
   ·have HR:aj (Tk.cO s.data.toList=false):=(by apply ah; rw [HN.o]; unfold Bb; rw [hhd,hL]; simp);have hL':Tk.ko (s[0].toNat:Int)=false:=hL;clear HN hhd;go_enter Tryz.func17,Tryz.ntmps17;go_wp2_with (go_at_call 26; refine (pq _ _).mono ?_; rintro e w' ⟨rfl,rfl⟩);go_ret;exact ⟨aI HR.o.symm,Below.refl _ _⟩
   ·have hL':Tk.ko (s[0].toNat:Int)=true:=hL;cases hK:Tk.kg s.data.toList
    ·have HR:aj (Tk.cO s.data.toList=s.data.toList.all Tk.eU):=(by apply ah; rw [HN.o]; unfold Bb; rw [hhd,hL,hK,show decide (s.size<=12)=true from by simp; omega,show decide (1<=s.size)=true from by simp; omega]; rfl);clear HN hhd hL;go_enter Tryz.func17,Tryz.ntmps17;go_wp2_with (first | (go_at_call 26; refine (pq _ _).mono ?_; rintro e w' ⟨rfl,rfl⟩) | (go_at_call 27; refine (qj _ _).mono ?_; rintro e w1 ⟨rfl,hb1⟩));have HB:=ah hb1;clear hb1;go_loop [3] (fun i=> ∃k:Nat,k<=s.size∧i= .int .i64 k∧BA s k) (fun i=>s.size - (intOf i).toNat)
     case atStart=>exact ⟨0,Nat.zero_le _,rfl,fun j hj h=>absurd h (by omega)⟩
     case round=>
      obtain ⟨k,hk,rfl,hok⟩:=hrel;by_cases hlt:k < s.size
      ·cases hi:Tk.eU s[k]
       ·have hi':Tk.zK (s[k].toNat:Int)=false:=hi;have HF:=ah (Lu s k hlt hi);clear hi;go_wp2_with (go_at_call 28; refine (AV _ _).mono ?_; rintro e w' ⟨rfl,rfl⟩);go_ret;exact ⟨aI (HR.o.trans HF.o).symm,HB.o⟩
       ·have hi':Tk.zK (s[k].toNat:Int)=true:=hi;have hst:=hok.step hlt hi;clear hi;go_wp2_with (go_at_call 28; refine (AV _ _).mono ?_; rintro e w' ⟨rfl,rfl⟩);go_round
        case rel=>exact ⟨k + 1,by omega,by go_num,hst⟩
        case measure=>simp [intOf]; omega
      ·obtain rfl:k=s.size:=(by omega);have HT:=ah (Jd s hok);go_wp2;go_ret;exact ⟨aI (HR.o.trans HT.o).symm,HB.o⟩
    ·have HR:aj (Tk.cO s.data.toList=false):=(by apply ah; rw [HN.o,hK]; simp);clear HN hhd hL;go_enter Tryz.func17,Tryz.ntmps17;go_wp2_with (first | (go_at_call 26; refine (pq _ _).mono ?_; rintro e w' ⟨rfl,rfl⟩) | (go_at_call 27; refine (qj _ _).mono ?_; rintro e w1 ⟨rfl,hb1⟩));go_ret;exact ⟨aI HR.o.symm,hb1⟩
end Go.Proofs.YtkajcclnlehkmaaGreatDoor
