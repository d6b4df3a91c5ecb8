/- Contract of token.IsName. And what hangs on it. -/
import Derived.Test.YtkmllehjemjgpaaGreatDoorGA
import Derived.Deep.QuietTactic
import Derived.BigQuiet
import Derived.Laws.RangeAny
set_option linter.unusedSimpArgs false
set_option linter.unusedVariables false
set_option maxHeartbeats 40000000
set_option maxRecDepth 1000000
namespace Go.Proofs.YtkmllehjemjgpaaGreatDoor
open Go.RowKit
def BX (s:ByteArray) (j:Nat) (h:j<s.size):Bool:=if j=0 then Tk.zC s[j]else Tk.kr s[j]
def Nf (s:ByteArray) (k:Nat):Prop:= ∀j (h:j<s.size),j<k->BX s j h=true
theorem Nf.step {s:ByteArray} {k:Nat} (h:Nf s k) (hk:k<s.size) (hp:BX s k hk=true):Nf s (k+1):=by
 intro j hj hjk;by_cases e:j=k
 ·subst e;exact hp
 ·exact h j hj (by omega)
def LG (l:List UInt8):Bool:=l.head?.any Tk.zC&&l.all Tk.kr
theorem ax8 (s:ByteArray) (h0:0<s.size) (h:Nf s s.size):LG s.data.toList=true:=by
 unfold LG;rw[Bool.and_eq_true];constructor
 ·have:=h 0 h0 h0;unfold BX at this;rw[if_pos rfl]at this;rw[Tk.sN s h0];exact this
 ·rw[List.all_eq_true];intro c hc;obtain⟨j,hj,rfl⟩:=List.getElem_of_mem hc;have hj':j<s.size:=by rw[Lib.size_eq];exact hj
  have:=h j hj' hj';unfold BX at this;split at this
  ·exact Ov _ this
  ·exact this
theorem aC5 (s:ByteArray) (k:Nat) (hk:k<s.size) (h:BX s k hk=false):LG s.data.toList=false:=by
 unfold LG;unfold BX at h;split at h
 ·rename_i e;subst e;have h1:s.data.toList.head?.any Tk.zC=false:=by rw[Tk.sN s hk];exact h
  rw[h1];rfl
 ·have h1:s.data.toList.all Tk.kr=false:=by rw[List.all_eq_false];exact⟨s[k],List.getElem_mem (by rw[<- Lib.size_eq];exact hk),by rw[h];decide⟩
  rw[h1,Bool.and_false]
theorem QV (l:List UInt8):Tk.iC l=((decide (1<=l.length)&&decide (l.length<=12)&& !Tk.sS l)&&LG l):=rfl
theorem Yo (s:ByteArray) (k:Nat) (hk:k<s.size) (r:Int) (hr:(s[k].toNat<128∧r=(s[k].toNat:Int))∨(128<=s[k].toNat∧128<=r)):
 (BX s k hk=true∧s[k].toNat<128∧((97<=r∧r<=122)∨(65<=r∧r<=90)))∨
 (BX s k hk=true∧s[k].toNat<128∧0<k∧(r=95∨(48<=r∧r<=57)))∨
 (BX s k hk=false∧ ¬(97<=r∧r<=122)∧ ¬(65<=r∧r<=90)∧(k=0∨(0<k∧r≠95∧ ¬(48<=r∧r<=57)))):=by
 unfold BX Tk.kr Tk.zC Tk.Kj Tk.qU Tk.qz;have hc:=s[k].toNat_lt;generalize s[k].toNat=c at *;by_cases h1:97<=(c:Int)∧(c:Int)<=122
 ·left;simp[h1];omega
 ·by_cases h2:65<=(c:Int)∧(c:Int)<=90
  ·left;simp[h2];omega
  ·by_cases h0:k=0
   ·right;right;simp[h0];omega
   ·by_cases h3:(c:Int)=95∨(48<=(c:Int)∧(c:Int)<=57)
    ·right;left;rw[if_neg h0];refine⟨?_,by omega,by omega,by omega⟩;simp only[Bool.or_eq_true,Bool.and_eq_true,decide_eq_true_eq,beq_iff_eq];omega
    ·right;right;rw[if_neg h0];refine⟨?_,by omega,by omega,by omega⟩;rw[Bool.eq_false_iff];simp only[ne_eq,Bool.or_eq_true,Bool.and_eq_true,decide_eq_true_eq,beq_iff_eq];omega
def an8 (w:World) (s:ByteArray) (k:Nat) (wr:World):Prop:=wr=w.iter s k
theorem Du (w:World) (s:ByteArray) (k:Nat):Below w.heap.size w (w.iter s k):=(Below.refl _ _).alloc (Nat.le_refl _) _
theorem wP (s:ByteArray) (w:World) (dG:dD w) (hm:s.size<=maxLen):
 Calls Tryz.prog 46 #[.string s] w λe w'=>e= .returned (.bool (Tk.iC s.data.toList))∧Below w.heap.size w w':=by
 have HN:=ah (QV s.data.toList);rw[<- Lib.size_eq]at HN;unfold maxLen at hm;by_cases h1:s.size<1
 ·have HR:aj (Tk.iC s.data.toList=false):=by apply ah;rw[HN.o,show decide (1<=s.size)=false from decide_eq_false (by omega)];rfl
  clear HN;go_enter Tryz.func46,Tryz.ntmps46;go_wp2;go_ret;exact⟨aZ HR.o.symm,Below.refl _ _⟩
 ·by_cases h2:12<s.size
  ·have HR:aj (Tk.iC s.data.toList=false):=by apply ah;rw[HN.o,show decide (s.size<=12)=false from by simp;omega];simp
   clear HN;go_enter Tryz.func46,Tryz.ntmps46;go_wp2;go_ret;exact⟨aZ HR.o.symm,Below.refl _ _⟩
  ·cases hK:Tk.sS s.data.toList
   ·have HR:aj (Tk.iC s.data.toList=LG s.data.toList):=(by apply ah;rw[HN.o,hK,show decide (s.size<=12)=true from by simp;omega,show decide (1<=s.size)=true from by simp;omega];rfl);clear HN;go_enter Tryz.func46,Tryz.ntmps46;go_wp2_with (go_at_call 79;refine(yU _ _ dG).mono ?_;rintro e w' ⟨rfl,rfl⟩);go_loopw [3] (λ_ wr=> ∃k:Nat,k<=s.size∧an8 w s k wr∧Nf s k) (λ_ wr=>s.size -wr.iterPos w.heap.size)
    case atStart=>exact⟨0,Nat.zero_le _,rfl,λj hj h=>absurd h (by omega)⟩
    case round=>
     obtain⟨k,hk,hit,hok⟩:=hrel;obtain rfl:wr=w.iter s k:=hit;by_cases hlt:k<s.size
     ·have hnx:=λty=>run_next_any (P:=Tryz.prog) w s k ty hlt;have hrr:(s[k].toNat<128∧((Utf8.decode s k).1:Int)=(s[k].toNat:Int))∨(128<=s[k].toNat∧128<=((Utf8.decode s k).1:Int)):=by
       by_cases ha:s[k].toNat<128
       ·left;exact⟨ha,by rw[decode_ascii s k hlt ha]⟩
       ·right;have:=decode_high s k hlt (by omega);omega
      have hle:=decode_le s k;have HD:aj (s[k].toNat<128->(Utf8.decode s k).2=1):=ah λha=>by rw[decode_ascii s k hlt ha]
      have parts:=Yo s k hlt _ hrr;clear hrr hK;generalize (Utf8.decode s k).1=r at *;generalize (Utf8.decode s k).2=z at *;rcases parts with⟨hn,ha,hc⟩|⟨hn,ha,hk0,hc⟩|⟨hn,hA,hB,hC⟩
      ·have hst:=hok.step hlt hn;obtain rfl:z=1:=HD.o ha;clear hn HD;rcases hc with⟨q1,q2⟩|⟨q1,q2⟩
       all_goals
        go_wp2;go_roundw
        case rel=>exact⟨k+1,by omega,rfl,hst⟩
        case measure=>simp;omega
      ·have hst:=hok.step hlt hn;obtain rfl:z=1:=HD.o ha;clear hn HD;rcases hc with q1|⟨q1,q2⟩
       ·have q3:((r:Int)==95)=true:=(by rw[q1];rfl);have q4:95<=(r:Int):=(by omega);have q5:(r:Int)<=95:=(by omega);clear q1;go_wp2;go_roundw
        case rel=>exact⟨k+1,by omega,rfl,hst⟩
        case measure=>simp;omega
       ·have q3:((r:Int)==95)=false:=(by rw[beq_eq_false_iff_ne];omega);go_wp2;go_roundw
        case rel=>exact⟨k+1,by omega,rfl,hst⟩
        case measure=>simp;omega
      ·have HF:=ah (aC5 s k hlt hn);clear hn HD;rcases hC with h0|⟨hk0,q1,q2⟩
       ·obtain rfl:k=0:=h0;go_wp2
        all_goals go_ret
        all_goals exact⟨aZ (HR.o.trans HF.o).symm,Du _ _ _⟩
       ·have q3:((r:Int)==95)=false:=(by rw[beq_eq_false_iff_ne];exact q1);clear q1;go_wp2
        all_goals go_ret
        all_goals exact⟨aZ (HR.o.trans HF.o).symm,Du _ _ _⟩
     ·obtain rfl:k=s.size:=(by omega);have hnx:=λty=>run_next_end (P:=Tryz.prog) w s s.size ty (by omega);have HT:=ah (ax8 s (by omega) hok);go_wp2;go_ret;exact⟨aZ (HR.o.trans HT.o).symm,Du _ _ _⟩
   ·have HR:aj (Tk.iC s.data.toList=false):=(by apply ah;rw[HN.o,hK];simp);clear HN;go_enter Tryz.func46,Tryz.ntmps46;go_wp2_with (go_at_call 79;refine(yU _ _ dG).mono ?_;rintro e w' ⟨rfl,rfl⟩);go_ret;exact⟨aZ HR.o.symm,Below.refl _ _⟩
theorem zH (c:Int) (w:World):
 Calls Tryz.prog 87 #[.int .u8 c] w λe w'=>e= .returned (.bool (Tk.qU c))∧w=w':=by
 unfold Tk.qU;go_enter Tryz.func87,Tryz.ntmps87;go_wp2
 all_goals go_ret
 all_goals first|(simp[*];done)|(simp[*];omega)
theorem Tp (c:Int) (w:World):
 Calls Tryz.prog 127 #[.int .u8 c] w λe w'=>e= .returned (.bool (Tk.qz c))∧w=w':=by
 unfold Tk.qz;go_enter Tryz.func127,Tryz.ntmps127;go_wp2
 all_goals go_ret
 all_goals first|(simp[*];done)|(simp[*];omega)
theorem LA (c:Int) (w:World):
 Calls Tryz.prog 89 #[.int .u8 c] w λe w'=>e= .returned (.bool (Tk.Kj c))∧w=w':=by
 unfold Tk.Kj;go_enter Tryz.func89,Tryz.ntmps89;go_wp2_with (first|(go_at_call 87;refine(zH _ _).mono ?_;rintro e w' ⟨rfl,rfl⟩)|(go_at_call 127;refine(Tp _ _).mono ?_;rintro e w' ⟨rfl,rfl⟩))
 all_goals go_ret
 all_goals first|(simp[*];done)|(simp[*];omega)
def Ik:List Value:=Tk.Fq.map λl=>Value.string ⟨l.toArray⟩
theorem PK (k:Nat) (h:k<22):Ik[k]? =some (.string (Kk k)):=by
 have hl:Tk.Fq.length=22:=rfl;unfold Ik Kk;rw[List.getElem?_map,List.getElem?_eq_getElem (by omega),Oy k (by omega)];rfl
theorem Nc (w:World):
 Calls Tryz.prog 126 #[] w λe w'=>e= .returned (.slice (some ⟨w.heap.size,0,none⟩) 22 22)∧w.alloc (.cells Ik.toArray 9)=w':=by
 go_enter Tryz.func126,Tryz.ntmps126;go_wp2;go_ret;exact⟨rfl,rfl⟩
theorem Ao (s:ByteArray) (w:World):
 Calls Tryz.prog 88 #[.string s] w λe w'=>e= .returned (.bool (Tk.sS s.data.toList))∧Below w.heap.size w w':=by
 rw[<- Lib.toList_data];go_enter Tryz.func88,Tryz.ntmps88;go_wp2_with fail;refine(Nc _).mono ?_;rintro e w1 ⟨rfl,hw⟩;have hcell: ∀k,k<22->w1.cell? ⟨w.heap.size,k,none⟩=some (.string (Kk k)):=λk hk=>by rw[<- hw,LD,PK k hk]
 have HB:aj (Below w.heap.size w w1):=ah (by rw[<- hw];exact(Below.refl _ _).alloc (Nat.le_refl _) _);have HC:=ah hcell;clear hw hcell;go_wp2;go_loop [4] (λi=> ∃k:Nat,k<=22∧i= .int .i64 k∧Ng s.toList k) (λi=>22 -(intOf i).toNat)
 case atStart=>exact⟨0,Nat.zero_le _,rfl,λj hj=>absurd hj (by omega)⟩
 case round=>
  obtain⟨k,hk,rfl,hno⟩:=hrel;by_cases hlt:k<22
  ·have hix:=HC.o k hlt;have hat:=GR k;by_cases he:(s.toList==AO k)=true
   ·have he2:(AO k==s.toList)=true:=(by rw[beq_iff_eq]at he⊢;exact he.symm);have HY:=ah (Vn k hlt _ he);clear he;go_wp2;go_ret;exact⟨aZ HY.o.symm,HB.o⟩
   ·have he':(s.toList==AO k)=false:=(by simpa using he);have he2:(AO k==s.toList)=false:=(by rw[beq_eq_false_iff_ne]at he'⊢;exact he'.symm);have hst:=hno.step he';clear he he';go_wp2;go_round
    case rel=>exact⟨k+1,by omega,by go_num,hst⟩
    case measure=>simp[intOf];omega
  ·obtain rfl:k=22:=by omega
   go_wp2;go_ret;exact⟨aZ (ZN _ hno).symm,HB.o⟩
def Mi (s:ByteArray) (k:Nat):Prop:= ∀j (h:j<s.size),j<k->Tk.kr s[j]=true
theorem Xo (s:ByteArray) (h:Mi s s.size):s.data.toList.all Tk.kr=true:=by
 rw[List.all_eq_true];intro c hc;obtain⟨j,hj,rfl⟩:=List.getElem_of_mem hc;have hj':j<s.size:=by rw[Lib.size_eq];exact hj
 exact h j hj' hj'
theorem ab2 (s:ByteArray) (k:Nat) (hk:k<s.size) (h:Tk.kr s[k]=false):s.data.toList.all Tk.kr=false:=by
 rw[List.all_eq_false];exact⟨s[k],List.getElem_mem (by rw[<- Lib.size_eq];exact hk),by rw[h];decide⟩
theorem Mi.step {s:ByteArray} {k:Nat} (h:Mi s k) (hk:k<s.size) (hp:Tk.kr s[k]=true):Mi s (k+1):=by
 intro j hj hjk;by_cases e:j=k
 ·subst e;exact hp
 ·exact h j hj (by omega)
theorem mq (s:ByteArray) (w:World) (hm:s.size<=maxLen):
 Calls Tryz.prog 61 #[.string s] w λe w'=>e= .returned (.bool (Tk.iC s.data.toList))∧Below w.heap.size w w':=by
 have HN:=ah (QV s.data.toList);rw[<- Lib.size_eq]at HN;unfold maxLen at hm;by_cases h1:s.size<1
 ·have HR:aj (Tk.iC s.data.toList=false):=by apply ah;rw[HN.o,show decide (1<=s.size)=false from decide_eq_false (by omega)];rfl
  clear HN;go_enter Tryz.func61,Tryz.ntmps61;go_wp2;go_ret;exact⟨aZ HR.o.symm,Below.refl _ _⟩
 ·by_cases h2:12<s.size
  ·have HR:aj (Tk.iC s.data.toList=false):=by apply ah;rw[HN.o,show decide (s.size<=12)=false from decide_eq_false (by omega)];simp
   clear HN;go_enter Tryz.func61,Tryz.ntmps61;go_wp2;go_ret;exact⟨aZ HR.o.symm,Below.refl _ _⟩
  ·have h0:0<s.size:=by omega
   have hhd:s.data.toList.head?.any Tk.zC=Tk.zC s[0]:=by rw[Tk.sN s h0];rfl
   cases hL:Tk.zC s[0]
   ·have HR:aj (Tk.iC s.data.toList=false):=(by apply ah;rw[HN.o];unfold LG;rw[hhd,hL];simp);have hL':Tk.qU (s[0].toNat:Int)=false:=hL;clear HN hhd;go_enter Tryz.func61,Tryz.ntmps61;go_wp2_with (go_at_call 87;refine(zH _ _).mono ?_;rintro e w' ⟨rfl,rfl⟩);go_ret;exact⟨aZ HR.o.symm,Below.refl _ _⟩
   ·have hL':Tk.qU (s[0].toNat:Int)=true:=hL;cases hK:Tk.sS s.data.toList
    ·have HR:aj (Tk.iC s.data.toList=s.data.toList.all Tk.kr):=(by apply ah;rw[HN.o];unfold LG;rw[hhd,hL,hK,show decide (s.size<=12)=true from by simp;omega,show decide (1<=s.size)=true from by simp;omega];rfl);clear HN hhd hL;go_enter Tryz.func61,Tryz.ntmps61;go_wp2_with (first|(go_at_call 87;refine(zH _ _).mono ?_;rintro e w' ⟨rfl,rfl⟩)|(go_at_call 88;refine(Ao _ _).mono ?_;rintro e w1 ⟨rfl,hb1⟩));have HB:=ah hb1;clear hb1;go_loop [3] (λi=> ∃k:Nat,k<=s.size∧i= .int .i64 k∧Mi s k) (λi=>s.size -(intOf i).toNat)
     case atStart=>exact⟨0,Nat.zero_le _,rfl,λj hj h=>absurd h (by omega)⟩
     case round=>
      obtain⟨k,hk,rfl,hok⟩:=hrel;by_cases hlt:k<s.size
      ·cases hi:Tk.kr s[k]
       ·have hi':Tk.Kj (s[k].toNat:Int)=false:=hi;have HF:=ah (ab2 s k hlt hi);clear hi;go_wp2_with (go_at_call 89;refine(LA _ _).mono ?_;rintro e w' ⟨rfl,rfl⟩);go_ret;exact⟨aZ (HR.o.trans HF.o).symm,HB.o⟩
       ·have hi':Tk.Kj (s[k].toNat:Int)=true:=hi;have hst:=hok.step hlt hi;clear hi;go_wp2_with (go_at_call 89;refine(LA _ _).mono ?_;rintro e w' ⟨rfl,rfl⟩);go_round
        case rel=>exact⟨k+1,by omega,by go_num,hst⟩
        case measure=>simp[intOf];omega
      ·obtain rfl:k=s.size:=(by omega);have HT:=ah (Xo s hok);go_wp2;go_ret;exact⟨aZ (HR.o.trans HT.o).symm,HB.o⟩
    ·have HR:aj (Tk.iC s.data.toList=false):=(by apply ah;rw[HN.o,hK];simp);clear HN hhd hL;go_enter Tryz.func61,Tryz.ntmps61;go_wp2_with (first|(go_at_call 87;refine(zH _ _).mono ?_;rintro e w' ⟨rfl,rfl⟩)|(go_at_call 88;refine(Ao _ _).mono ?_;rintro e w1 ⟨rfl,hb1⟩));go_ret;exact⟨aZ HR.o.symm,hb1⟩
end Go.Proofs.YtkmllehjemjgpaaGreatDoor
