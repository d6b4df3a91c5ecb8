/- Contract of token.IsName. And what hangs on it. -/
import Derived.Test.YtmildapbbcbbhaaGreatDoorGA
import Derived.Deep.QuietTactic
import Derived.BigQuiet
import Derived.Laws.RangeAny
set_option linter.unusedSimpArgs false
set_option linter.unusedVariables false
set_option maxHeartbeats 40000000
set_option maxRecDepth 1000000
namespace Go.Proofs.YtmildapbbcbbhaaGreatDoor
open Go.RowKit
def DL (s:ByteArray) (j:Nat) (h:j<s.size):Bool:=if j=0 then Tk.AX s[j]else Tk.lM s[j]
def Pp (s:ByteArray) (k:Nat):Prop:= ∀j (h:j<s.size),j<k->DL s j h=true
theorem Pp.step {s:ByteArray} {k:Nat} (h:Pp s k) (hk:k<s.size) (hp:DL s k hk=true):Pp s (k+1):=by
 intro j hj hjk;by_cases e:j=k
 ·subst e;exact hp
 ·exact h j hj (by omega)
def NM (l:List UInt8):Bool:=l.head?.any Tk.AX&&l.all Tk.lM
theorem aP7 (s:ByteArray) (h0:0<s.size) (h:Pp s s.size):NM s.data.toList=true:=by
 unfold NM;rw[aJ];constructor
 ·have:=h 0 h0 h0;unfold DL at this;rw[if_pos rfl]at this;rw[Tk.uw s h0];exact this
 ·rw[List.all_eq_true];intro c hc;obtain⟨j,hj,rfl⟩:=List.getElem_of_mem hc;have hj':j<s.size:=by rw[Lib.size_eq];exact hj
  have:=h j hj' hj';unfold DL at this;split at this
  ·exact Qz _ this
  ·exact this
theorem aW2 (s:ByteArray) (k:Nat) (hk:k<s.size) (h:DL s k hk=false):NM s.data.toList=false:=by
 unfold NM;unfold DL at h;split at h
 ·rename_i e;subst e;have h1:s.data.toList.head?.any Tk.AX=false:=by rw[Tk.uw s hk];exact h
  rw[h1];rfl
 ·have h1:s.data.toList.all Tk.lM=false:=by rw[List.all_eq_false];exact⟨s[k],List.getElem_mem (by rw[<- Lib.size_eq];exact hk),by rw[h];decide⟩
  rw[h1,Bool.and_false]
theorem TN (l:List UInt8):Tk.jv l=((decide (1<=l.length)&&decide (l.length<=12)&& !Tk.uG l)&&NM l):=rfl
theorem ac5 (s:ByteArray) (k:Nat) (hk:k<s.size) (r:Int) (hr:(s[k].toNat<128∧r=(s[k].toNat:Int))∨(128<=s[k].toNat∧128<=r)):
 (DL s k hk=true∧s[k].toNat<128∧((97<=r∧r<=122)∨(65<=r∧r<=90)))∨
 (DL s k hk=true∧s[k].toNat<128∧0<k∧(r=95∨(48<=r∧r<=57)))∨
 (DL s k hk=false∧ ¬(97<=r∧r<=122)∧ ¬(65<=r∧r<=90)∧(k=0∨(0<k∧r≠95∧ ¬(48<=r∧r<=57)))):=by
 unfold DL Tk.lM Tk.AX Tk.Mc Tk.sH Tk.rG;have hc:=s[k].toNat_lt;generalize s[k].toNat=c at *;by_cases h1:97<=(c:Int)∧(c:Int)<=122
 ·left;simp[h1];omega
 ·by_cases h2:65<=(c:Int)∧(c:Int)<=90
  ·left;simp[h2];omega
  ·by_cases h0:k=0
   ·right;right;simp[h0];omega
   ·by_cases h3:(c:Int)=95∨(48<=(c:Int)∧(c:Int)<=57)
    ·right;left;rw[if_neg h0];refine⟨?_,by omega,by omega,by omega⟩;simp only[Bool.or_eq_true,aJ,decide_eq_true_eq,beq_iff_eq];omega
    ·right;right;rw[if_neg h0];refine⟨?_,by omega,by omega,by omega⟩;rw[Bool.eq_false_iff];simp only[ne_eq,Bool.or_eq_true,aJ,decide_eq_true_eq,beq_iff_eq];omega
def aE0 (w:World) (s:ByteArray) (k:Nat) (wr:World):Prop:=wr=w.iter s k
theorem F5 (w:World) (s:ByteArray) (k:Nat):Below w.heap.size w (w.iter s k):=(ak _ _).alloc (aB _) _
theorem xR (s:ByteArray) (w:World) (eH:eG w) (hm:s.size<=maxLen):
 Calls Tryz.prog 57 #[.string s] w λe w'=>e= .returned (.bool (Tk.jv s.data.toList))∧Below w.heap.size w w':=by
 have HN:=ah (TN s.data.toList);rw[<- Lib.size_eq]at HN;unfold maxLen at hm;by_cases h1:s.size<1
 ·have HR:aj (Tk.jv s.data.toList=false):=by apply ah;rw[HN.o,show decide (1<=s.size)=false from decide_eq_false (by omega)];rfl
  clear HN;go_enter Tryz.func57,Tryz.ntmps57;go_wp2;go_ret;exact⟨bR HR.o.symm,ak _ _⟩
 ·by_cases h2:12<s.size
  ·have HR:aj (Tk.jv s.data.toList=false):=by apply ah;rw[HN.o,show decide (s.size<=12)=false from by simp;omega];simp
   clear HN;go_enter Tryz.func57,Tryz.ntmps57;go_wp2;go_ret;exact⟨bR HR.o.symm,ak _ _⟩
  ·cases hK:Tk.uG s.data.toList
   ·have HR:aj (Tk.jv s.data.toList=NM s.data.toList):=(by apply ah;rw[HN.o,hK,show decide (s.size<=12)=true from by simp;omega,show decide (1<=s.size)=true from by simp;omega];rfl);clear HN;go_enter Tryz.func57,Tryz.ntmps57;go_wp2_with (go_at_call 87;refine(Ac _ _ eH).mono ?_;rintro e w' ⟨rfl,rfl⟩);go_loopw [3] (λ_ wr=> ∃k:Nat,k<=s.size∧aE0 w s k wr∧Pp s k) (λ_ wr=>s.size -wr.iterPos w.heap.size)
    case atStart=>exact⟨0,bT _,rfl,λj hj h=>absurd h (by omega)⟩
    case round=>
     obtain⟨k,hk,hit,hok⟩:=hrel;obtain rfl:wr=w.iter s k:=hit;by_cases hlt:k<s.size
     ·have hnx:=λty=>run_next_any (P:=Tryz.prog) w s k ty hlt;have hrr:(s[k].toNat<128∧((Utf8.decode s k).1:Int)=(s[k].toNat:Int))∨(128<=s[k].toNat∧128<=((Utf8.decode s k).1:Int)):=by
       by_cases ha:s[k].toNat<128
       ·left;exact⟨ha,by rw[decode_ascii s k hlt ha]⟩
       ·right;have:=decode_high s k hlt (by omega);omega
      have hle:=decode_le s k;have HD:aj (s[k].toNat<128->(Utf8.decode s k).2=1):=ah λha=>by rw[decode_ascii s k hlt ha]
      have parts:=ac5 s k hlt _ hrr;clear hrr hK;generalize (Utf8.decode s k).1=r at *;generalize (Utf8.decode s k).2=z at *;rcases parts with⟨hn,ha,hc⟩|⟨hn,ha,hk0,hc⟩|⟨hn,hA,hB,hC⟩
      ·have hst:=hok.step hlt hn;obtain rfl:z=1:=HD.o ha;clear hn HD;rcases hc with⟨q1,q2⟩|⟨q1,q2⟩
       all_goals
        go_wp2;go_roundw
        case rel=>exact⟨k+1,by omega,rfl,hst⟩
        case measure=>simp;omega
      ·have hst:=hok.step hlt hn;obtain rfl:z=1:=HD.o ha;clear hn HD;rcases hc with q1|⟨q1,q2⟩
       ·have q3:((r:Int)==95)=true:=(by rw[q1];rfl);have q4:95<=(r:Int):=(by omega);have q5:(r:Int)<=95:=(by omega);clear q1;go_wp2;go_roundw
        case rel=>exact⟨k+1,by omega,rfl,hst⟩
        case measure=>simp;omega
       ·have q3:((r:Int)==95)=false:=(by rw[beq_eq_false_iff_ne];omega);go_wp2;go_roundw
        case rel=>exact⟨k+1,by omega,rfl,hst⟩
        case measure=>simp;omega
      ·have HF:=ah (aW2 s k hlt hn);clear hn HD;rcases hC with h0|⟨hk0,q1,q2⟩
       ·obtain rfl:k=0:=h0;go_wp2
        all_goals go_ret
        all_goals exact⟨bR (HR.o.trans HF.o).symm,F5 _ _ _⟩
       ·have q3:((r:Int)==95)=false:=(by rw[beq_eq_false_iff_ne];exact q1);clear q1;go_wp2
        all_goals go_ret
        all_goals exact⟨bR (HR.o.trans HF.o).symm,F5 _ _ _⟩
     ·obtain rfl:k=s.size:=(by omega);have hnx:=λty=>run_next_end (P:=Tryz.prog) w s s.size ty (by omega);have HT:=ah (aP7 s (by omega) hok);go_wp2;go_ret;exact⟨bR (HR.o.trans HT.o).symm,F5 _ _ _⟩
   ·have HR:aj (Tk.jv s.data.toList=false):=(by apply ah;rw[HN.o,hK];simp);clear HN;go_enter Tryz.func57,Tryz.ntmps57;go_wp2_with (go_at_call 87;refine(Ac _ _ eH).mono ?_;rintro e w' ⟨rfl,rfl⟩);go_ret;exact⟨bR HR.o.symm,ak _ _⟩
theorem Bc (c:Int) (w:World):
 Calls Tryz.prog 77 #[.int .u8 c] w λe w'=>e= .returned (.bool (Tk.sH c))∧w=w':=by
 unfold Tk.sH;go_enter Tryz.func77,Tryz.ntmps77;go_wp2
 all_goals go_ret
 all_goals first|(simp[*];done)|(simp[*];omega)
theorem VU (c:Int) (w:World):
 Calls Tryz.prog 110 #[.int .u8 c] w λe w'=>e= .returned (.bool (Tk.rG c))∧w=w':=by
 unfold Tk.rG;go_enter Tryz.func110,Tryz.ntmps110;go_wp2
 all_goals go_ret
 all_goals first|(simp[*];done)|(simp[*];omega)
theorem NG (c:Int) (w:World):
 Calls Tryz.prog 79 #[.int .u8 c] w λe w'=>e= .returned (.bool (Tk.Mc c))∧w=w':=by
 unfold Tk.Mc;go_enter Tryz.func79,Tryz.ntmps79;go_wp2_with (first|(go_at_call 77;refine(Bc _ _).mono ?_;rintro e w' ⟨rfl,rfl⟩)|(go_at_call 110;refine(VU _ _).mono ?_;rintro e w' ⟨rfl,rfl⟩))
 all_goals go_ret
 all_goals first|(simp[*];done)|(simp[*];omega)
def JA:List Value:=Tk.GX.map λl=>Value.string ⟨l.toArray⟩
theorem RA (k:Nat) (h:k<22):JA[k]? =some (.string (Me k)):=by
 have hl:Tk.GX.length=22:=rfl;unfold JA Me;rw[List.getElem?_map,bF (by omega),QC k (by omega)];rfl
theorem Pn (w:World):
 Calls Tryz.prog 109 #[] w λe w'=>e= .returned (.slice (some ⟨w.heap.size,0,none⟩) 22 22)∧w.alloc (.cells JA.toArray 9)=w':=by
 go_enter Tryz.func109,Tryz.ntmps109;go_wp2;go_ret;exact⟨rfl,rfl⟩
theorem Ca (s:ByteArray) (w:World):
 Calls Tryz.prog 78 #[.string s] w λe w'=>e= .returned (.bool (Tk.uG s.data.toList))∧Below w.heap.size w w':=by
 rw[<- Lib.toList_data];go_enter Tryz.func78,Tryz.ntmps78;go_wp2_with fail;refine(Pn _).mono ?_;rintro e w1 ⟨rfl,hw⟩;have hcell: ∀k,k<22->w1.cell? ⟨w.heap.size,k,none⟩=some (.string (Me k)):=λk hk=>by rw[<- hw,NK,RA k hk]
 have HB:aj (Below w.heap.size w w1):=ah (by rw[<- hw];exact(ak _ _).alloc (aB _) _);have HC:=ah hcell;clear hw hcell;go_wp2;go_loop [4] (λi=> ∃k:Nat,k<=22∧i= .int .i64 k∧Pq s.toList k) (λi=>22 -(intOf i).toNat)
 case atStart=>exact⟨0,bT _,rfl,λj hj=>absurd hj (by omega)⟩
 case round=>
  obtain⟨k,hk,rfl,hno⟩:=hrel;by_cases hlt:k<22
  ·have hix:=HC.o k hlt;have hat:=J4 k;by_cases he:(s.toList==Cv k)=true
   ·have he2:(Cv k==s.toList)=true:=(by rw[beq_iff_eq]at he⊢;exact he.symm);have HY:=ah (XK k hlt _ he);clear he;go_wp2;go_ret;exact⟨bR HY.o.symm,HB.o⟩
   ·have he':(s.toList==Cv k)=false:=(by simpa using he);have he2:(Cv k==s.toList)=false:=(by rw[beq_eq_false_iff_ne]at he'⊢;exact he'.symm);have hst:=hno.step he';clear he he';go_wp2;go_round
    case rel=>exact⟨k+1,by omega,by go_num,hst⟩
    case measure=>simp[intOf];omega
  ·obtain rfl:k=22:=by omega
   go_wp2;go_ret;exact⟨bR (an3 _ hno).symm,HB.o⟩
def Oy (s:ByteArray) (k:Nat):Prop:= ∀j (h:j<s.size),j<k->Tk.lM s[j]=true
theorem Zu (s:ByteArray) (h:Oy s s.size):s.data.toList.all Tk.lM=true:=by
 rw[List.all_eq_true];intro c hc;obtain⟨j,hj,rfl⟩:=List.getElem_of_mem hc;have hj':j<s.size:=by rw[Lib.size_eq];exact hj
 exact h j hj' hj'
theorem aq4 (s:ByteArray) (k:Nat) (hk:k<s.size) (h:Tk.lM s[k]=false):s.data.toList.all Tk.lM=false:=by
 rw[List.all_eq_false];exact⟨s[k],List.getElem_mem (by rw[<- Lib.size_eq];exact hk),by rw[h];decide⟩
theorem Oy.step {s:ByteArray} {k:Nat} (h:Oy s k) (hk:k<s.size) (hp:Tk.lM s[k]=true):Oy s (k+1):=by
 intro j hj hjk;by_cases e:j=k
 ·subst e;exact hp
 ·exact h j hj (by omega)
theorem nA (s:ByteArray) (w:World) (hm:s.size<=maxLen):
 Calls Tryz.prog 50 #[.string s] w λe w'=>e= .returned (.bool (Tk.jv s.data.toList))∧Below w.heap.size w w':=by
 have HN:=ah (TN s.data.toList);rw[<- Lib.size_eq]at HN;unfold maxLen at hm;by_cases h1:s.size<1
 ·have HR:aj (Tk.jv s.data.toList=false):=by apply ah;rw[HN.o,show decide (1<=s.size)=false from decide_eq_false (by omega)];rfl
  clear HN;go_enter Tryz.func50,Tryz.ntmps50;go_wp2;go_ret;exact⟨bR HR.o.symm,ak _ _⟩
 ·by_cases h2:12<s.size
  ·have HR:aj (Tk.jv s.data.toList=false):=by apply ah;rw[HN.o,show decide (s.size<=12)=false from decide_eq_false (by omega)];simp
   clear HN;go_enter Tryz.func50,Tryz.ntmps50;go_wp2;go_ret;exact⟨bR HR.o.symm,ak _ _⟩
  ·have h0:0<s.size:=by omega
   have hhd:s.data.toList.head?.any Tk.AX=Tk.AX s[0]:=by rw[Tk.uw s h0];rfl
   cases hL:Tk.AX s[0]
   ·have HR:aj (Tk.jv s.data.toList=false):=(by apply ah;rw[HN.o];unfold NM;rw[hhd,hL];simp);have hL':Tk.sH (s[0].toNat:Int)=false:=hL;clear HN hhd;go_enter Tryz.func50,Tryz.ntmps50;go_wp2_with (go_at_call 77;refine(Bc _ _).mono ?_;rintro e w' ⟨rfl,rfl⟩);go_ret;exact⟨bR HR.o.symm,ak _ _⟩
   ·have hL':Tk.sH (s[0].toNat:Int)=true:=hL;cases hK:Tk.uG s.data.toList
    ·have HR:aj (Tk.jv s.data.toList=s.data.toList.all Tk.lM):=(by apply ah;rw[HN.o];unfold NM;rw[hhd,hL,hK,show decide (s.size<=12)=true from by simp;omega,show decide (1<=s.size)=true from by simp;omega];rfl);clear HN hhd hL;go_enter Tryz.func50,Tryz.ntmps50;go_wp2_with (first|(go_at_call 77;refine(Bc _ _).mono ?_;rintro e w' ⟨rfl,rfl⟩)|(go_at_call 78;refine(Ca _ _).mono ?_;rintro e w1 ⟨rfl,hb1⟩));have HB:=ah hb1;clear hb1;go_loop [3] (λi=> ∃k:Nat,k<=s.size∧i= .int .i64 k∧Oy s k) (λi=>s.size -(intOf i).toNat)
     case atStart=>exact⟨0,bT _,rfl,λj hj h=>absurd h (by omega)⟩
     case round=>
      obtain⟨k,hk,rfl,hok⟩:=hrel;by_cases hlt:k<s.size
      ·cases hi:Tk.lM s[k]
       ·have hi':Tk.Mc (s[k].toNat:Int)=false:=hi;have HF:=ah (aq4 s k hlt hi);clear hi;go_wp2_with (go_at_call 79;refine(NG _ _).mono ?_;rintro e w' ⟨rfl,rfl⟩);go_ret;exact⟨bR (HR.o.trans HF.o).symm,HB.o⟩
       ·have hi':Tk.Mc (s[k].toNat:Int)=true:=hi;have hst:=hok.step hlt hi;clear hi;go_wp2_with (go_at_call 79;refine(NG _ _).mono ?_;rintro e w' ⟨rfl,rfl⟩);go_round
        case rel=>exact⟨k+1,by omega,by go_num,hst⟩
        case measure=>simp[intOf];omega
      ·obtain rfl:k=s.size:=(by omega);have HT:=ah (Zu s hok);go_wp2;go_ret;exact⟨bR (HR.o.trans HT.o).symm,HB.o⟩
    ·have HR:aj (Tk.jv s.data.toList=false):=(by apply ah;rw[HN.o,hK];simp);clear HN hhd hL;go_enter Tryz.func50,Tryz.ntmps50;go_wp2_with (first|(go_at_call 77;refine(Bc _ _).mono ?_;rintro e w' ⟨rfl,rfl⟩)|(go_at_call 78;refine(Ca _ _).mono ?_;rintro e w1 ⟨rfl,hb1⟩));go_ret;exact⟨bR HR.o.symm,hb1⟩
end Go.Proofs.YtmildapbbcbbhaaGreatDoor
