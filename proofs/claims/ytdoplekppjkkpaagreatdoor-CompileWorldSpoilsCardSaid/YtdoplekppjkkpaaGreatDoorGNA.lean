/- Contract of token.IsName. And what hangs on it. -/
import Derived.Test.YtdoplekppjkkpaaGreatDoorGA
set_option linter.unusedSimpArgs false
set_option linter.unusedVariables false
set_option maxHeartbeats 40000000
set_option maxRecDepth 1000000
namespace Go.Proofs.YtdoplekppjkkpaaGreatDoor
open Go.RowKit
def Em (s:ByteArray) (j:Nat) (h:j<s.size):Bool:=if j=0 then Tk.BI s[j]else Tk.lX s[j]
def Qc (s:ByteArray) (k:Nat):Prop:= ∀j (h:j<s.size),j<k->Em s j h=true
theorem Qc.step {s:ByteArray} {k:Nat} (h:Qc s k) (hk:k<s.size) (hp:Em s k hk=true):Qc s (k+1):=by
 intro j hj hjk;by_cases e:j=k
 ·subst e;exact hp
 ·exact h j hj agH
def Ow (l:List UInt8):Bool:=l.head?.any Tk.BI&&l.all Tk.lX
theorem aS9 (s:ByteArray) (h0:0<s.size) (h:Qc s s.size):Ow s.data.toList=true:=by
 unfold Ow;rw[aP];constructor
 ·have:=h 0 h0 h0;unfold Em at this;rw[if_pos rfl]at this;rw[Tk.vI s h0];exact this
 ·rw[List.all_eq_true];intro c hc;obtain⟨j,hj,rfl⟩:=List.getElem_of_mem hc;have hj':j<s.size:=by rw[Lib.size_eq];exact hj
  have:=h j hj' hj';unfold Em at this;split at this
  ·exact R8 _ this
  ·exact this
theorem aZ1 (s:ByteArray) (k:Nat) (hk:k<s.size) (h:Em s k hk=false):Ow s.data.toList=false:=by
 unfold Ow;unfold Em at h;split at h
 ·rename_i e;subst e;have h1:s.data.toList.head?.any Tk.BI=false:=by rw[Tk.vI s hk];exact h
  rw[h1];rfl
 ·have h1:s.data.toList.all Tk.lX=false:=by rw[List.all_eq_false];exact⟨s[k],List.getElem_mem adq,ahz⟩
  rw[h1,Bool.and_false]
theorem Uj (l:List UInt8):Tk.jf l=((decide (1<=l.length)&&decide (l.length<=12)&& !Tk.vP l)&&Ow l):=rfl
theorem af2 (s:ByteArray) (k:Nat) (hk:k<s.size) (r:Int) (hr:(s[k].toNat<128∧r=(s[k].toNat:Int))∨(128<=s[k].toNat∧128<=r)):
 (Em s k hk=true∧s[k].toNat<128∧((97<=r∧r<=122)∨(65<=r∧r<=90)))∨
 (Em s k hk=true∧s[k].toNat<128∧0<k∧(r=95∨(48<=r∧r<=57)))∨
 (Em s k hk=false∧ ¬(97<=r∧r<=122)∧ ¬(65<=r∧r<=90)∧(k=0∨(0<k∧r≠95∧ ¬(48<=r∧r<=57)))):=by
 unfold Em Tk.lX Tk.BI Tk.MX Tk.tO Tk.rV;have hc:=s[k].toNat_lt;generalize s[k].toNat=c at *;by_cases h1:97<=(c:Int)∧(c:Int)<=122
 ·left;simp[h1];omega
 ·by_cases h2:65<=(c:Int)∧(c:Int)<=90
  ·left;simp[h2];omega
  ·by_cases h0:k=0
   ·right;right;simp[h0];omega
   ·by_cases h3:(c:Int)=95∨(48<=(c:Int)∧(c:Int)<=57)
    ·right;left;rw[if_neg h0];refine⟨?_,agH,agH,agH⟩;simp only[Bool.or_eq_true,aP,decide_eq_true_eq,beq_iff_eq];omega
    ·right;right;rw[if_neg h0];refine⟨?_,agH,agH,agH⟩;rw[Bool.eq_false_iff];simp only[ne_eq,Bool.or_eq_true,aP,decide_eq_true_eq,beq_iff_eq];omega
def aI2 (w:World) (s:ByteArray) (k:Nat) (wr:World):Prop:=wr=w.iter s k
theorem FK (w:World) (s:ByteArray) (k:Nat):Below w.heap.size w (w.iter s k):=(au _ _).alloc (aB _) _
theorem zf (s:ByteArray) (w:World) (eG:dW w) (hm:s.size<=maxLen):
 Calls Tryz.prog 33 #[.string s] w λe w'=>e= .returned (.bool (Tk.jf s.data.toList))∧Below w.heap.size w w':=by
 have HN:=ah (Uj s.data.toList);rw[<- Lib.size_eq]at HN;unfold maxLen at hm;by_cases h1:s.size<1
 ·have HR:aj (Tk.jf s.data.toList=false):=by apply ah;rw[HN.o,show decide (1<=s.size)=false from decide_eq_false agH];rfl
  clear HN;go_enter Tryz.func33,Tryz.ntmps33;go_wp2;go_ret;exact⟨bW HR.o.symm,au _ _⟩
 ·by_cases h2:12<s.size
  ·have HR:aj (Tk.jf s.data.toList=false):=by apply ah;rw[HN.o,show decide (s.size<=12)=false from agK];simp
   clear HN;go_enter Tryz.func33,Tryz.ntmps33;go_wp2;go_ret;exact⟨bW HR.o.symm,au _ _⟩
  ·cases hK:Tk.vP s.data.toList
   ·have HR:aj (Tk.jf s.data.toList=Ow s.data.toList):=(by apply ah;rw[HN.o,hK,show decide (s.size<=12)=true from agK,show decide (1<=s.size)=true from agK];rfl);clear HN;go_enter Tryz.func33,Tryz.ntmps33;go_wp2_with (go_at_call 55;refine(Bc _ _ eG).mono ?_;rintro e w' ⟨rfl,rfl⟩);go_loopw [3] (λ_ wr=> ∃k:Nat,k<=s.size∧aI2 w s k wr∧Qc s k) (λ_ wr=>s.size -wr.iterPos w.heap.size)
    case atStart=>exact⟨0,bF _,rfl,λj hj h=>absurd h agH⟩
    case round=>
     obtain⟨k,hk,hit,hok⟩:=hrel;obtain rfl:wr=w.iter s k:=hit;by_cases hlt:k<s.size
     ·have hnx:=λty=>run_next_any (P:=Tryz.prog) w s k ty hlt;have hrr:(s[k].toNat<128∧((Utf8.decode s k).1:Int)=(s[k].toNat:Int))∨(128<=s[k].toNat∧128<=((Utf8.decode s k).1:Int)):=by
       by_cases ha:s[k].toNat<128
       ·left;exact⟨ha,by rw[decode_ascii s k hlt ha]⟩
       ·right;have:=decode_high s k hlt agH;omega
      have hle:=decode_le s k;have HD:aj (s[k].toNat<128->(Utf8.decode s k).2=1):=ah λha=>by rw[decode_ascii s k hlt ha]
      have parts:=af2 s k hlt _ hrr;clear hrr hK;generalize (Utf8.decode s k).1=r at *;generalize (Utf8.decode s k).2=z at *;rcases parts with⟨hn,ha,hc⟩|⟨hn,ha,hk0,hc⟩|⟨hn,hA,hB,hC⟩
      ·have hst:=hok.step hlt hn;obtain rfl:z=1:=HD.o ha;clear hn HD;rcases hc with⟨q1,q2⟩|⟨q1,q2⟩
       all_goals
        go_wp2;go_roundw
        case rel=>exact⟨k+1,agH,rfl,hst⟩
        case measure=>simp;omega
      ·have hst:=hok.step hlt hn;obtain rfl:z=1:=HD.o ha;clear hn HD;rcases hc with q1|⟨q1,q2⟩
       ·have q3:((r:Int)==95)=true:=(by rw[q1];rfl);have q4:95<=(r:Int):=agH;have q5:(r:Int)<=95:=agH;clear q1;go_wp2;go_roundw
        case rel=>exact⟨k+1,agH,rfl,hst⟩
        case measure=>simp;omega
       ·have q3:((r:Int)==95)=false:=acy;go_wp2;go_roundw
        case rel=>exact⟨k+1,agH,rfl,hst⟩
        case measure=>simp;omega
      ·have HF:=ah (aZ1 s k hlt hn);clear hn HD;rcases hC with h0|⟨hk0,q1,q2⟩
       ·obtain rfl:k=0:=h0;go_wp2
        all_goals go_ret
        all_goals exact⟨bW (HR.o.trans HF.o).symm,FK _ _ _⟩
       ·have q3:((r:Int)==95)=false:=(by rw[beq_eq_false_iff_ne];exact q1);clear q1;go_wp2
        all_goals go_ret
        all_goals exact⟨bW (HR.o.trans HF.o).symm,FK _ _ _⟩
     ·obtain rfl:k=s.size:=agH;have hnx:=λty=>run_next_end (P:=Tryz.prog) w s s.size ty agH;have HT:=ah (aS9 s agH hok);go_wp2;go_ret;exact⟨bW (HR.o.trans HT.o).symm,FK _ _ _⟩
   ·have HR:aj (Tk.jf s.data.toList=false):=(by apply ah;rw[HN.o,hK];simp);clear HN;go_enter Tryz.func33,Tryz.ntmps33;go_wp2_with (go_at_call 55;refine(Bc _ _ eG).mono ?_;rintro e w' ⟨rfl,rfl⟩);go_ret;exact⟨bW HR.o.symm,au _ _⟩
theorem BM (c:Int) (w:World):
 Calls Tryz.prog 35 #[.int .u8 c] w λe w'=>e= .returned (.bool (Tk.tO c))∧w=w':=by
 unfold Tk.tO;go_enter Tryz.func35,Tryz.ntmps35;go_wp2
 all_goals go_ret
 all_goals first|(simp[*];done)|(simp[*];omega)
theorem Wz (c:Int) (w:World):
 Calls Tryz.prog 57 #[.int .u8 c] w λe w'=>e= .returned (.bool (Tk.rV c))∧w=w':=by
 unfold Tk.rV;go_enter Tryz.func57,Tryz.ntmps57;go_wp2
 all_goals go_ret
 all_goals first|(simp[*];done)|(simp[*];omega)
theorem Ot (c:Int) (w:World):
 Calls Tryz.prog 37 #[.int .u8 c] w λe w'=>e= .returned (.bool (Tk.MX c))∧w=w':=by
 unfold Tk.MX;go_enter Tryz.func37,Tryz.ntmps37;go_wp2_with (first|(go_at_call 35;refine(BM _ _).mono ?_;rintro e w' ⟨rfl,rfl⟩)|(go_at_call 57;refine(Wz _ _).mono ?_;rintro e w' ⟨rfl,rfl⟩))
 all_goals go_ret
 all_goals first|(simp[*];done)|(simp[*];omega)
def Kq:List Value:=Tk.Iw.map λl=>Value.string ⟨l.toArray⟩
theorem SH (k:Nat) (h:k<22):Kq[k]? =some (.string (N7 k)):=by
 have hl:Tk.Iw.length=22:=rfl;unfold Kq N7;rw[List.getElem?_map,bC agH,Rc k agH];rfl
theorem Qa (w:World):
 Calls Tryz.prog 56 #[] w λe w'=>e= .returned (.slice (some ⟨w.heap.size,0,none⟩) 22 22)∧w.alloc (.cells Kq.toArray 9)=w':=by
 go_enter Tryz.func56,Tryz.ntmps56;go_wp2;go_ret;exact⟨rfl,rfl⟩
theorem CG (s:ByteArray) (w:World):
 Calls Tryz.prog 36 #[.string s] w λe w'=>e= .returned (.bool (Tk.vP s.data.toList))∧Below w.heap.size w w':=by
 rw[<- Lib.toList_data];go_enter Tryz.func36,Tryz.ntmps36;go_wp2_with fail;refine(Qa _).mono ?_;rintro e w1 ⟨rfl,hw⟩;have hcell: ∀k,k<22->w1.cell? ⟨w.heap.size,k,none⟩=some (.string (N7 k)):=λk hk=>by rw[<- hw,Ov,SH k hk]
 have HB:aj (Below w.heap.size w w1):=ah (by rw[<- hw];exact(au _ _).alloc (aB _) _);have HC:=ah hcell;clear hw hcell;go_wp2;go_loop [4] (λi=> ∃k:Nat,k<=22∧i= .int .i64 k∧Qd s.toList k) (λi=>22 -(intOf i).toNat)
 case atStart=>exact⟨0,bF _,rfl,λj hj=>absurd hj agH⟩
 case round=>
  obtain⟨k,hk,rfl,hno⟩:=hrel;by_cases hlt:k<22
  ·have hix:=HC.o k hlt;have hat:=JQ k;by_cases he:(s.toList==Da k)=true
   ·have he2:(Da k==s.toList)=true:=(by rw[beq_iff_eq]at he⊢;exact he.symm);have HY:=ah (Yo k hlt _ he);clear he;go_wp2;go_ret;exact⟨bW HY.o.symm,HB.o⟩
   ·have he':(s.toList==Da k)=false:=ahd;have he2:(Da k==s.toList)=false:=(by rw[beq_eq_false_iff_ne]at he'⊢;exact he'.symm);have hst:=hno.step he';clear he he';go_wp2;go_round
    case rel=>exact⟨k+1,agH,agL,hst⟩
    case measure=>simp[intOf];omega
  ·obtain rfl:k=22:=by omega
   go_wp2;go_ret;exact⟨bW (ar3 _ hno).symm,HB.o⟩
def Pe (s:ByteArray) (k:Nat):Prop:= ∀j (h:j<s.size),j<k->Tk.lX s[j]=true
theorem ZV (s:ByteArray) (h:Pe s s.size):s.data.toList.all Tk.lX=true:=by
 rw[List.all_eq_true];intro c hc;obtain⟨j,hj,rfl⟩:=List.getElem_of_mem hc;have hj':j<s.size:=by rw[Lib.size_eq];exact hj
 exact h j hj' hj'
theorem au2 (s:ByteArray) (k:Nat) (hk:k<s.size) (h:Tk.lX s[k]=false):s.data.toList.all Tk.lX=false:=by
 rw[List.all_eq_false];exact⟨s[k],List.getElem_mem adq,ahz⟩
theorem Pe.step {s:ByteArray} {k:Nat} (h:Pe s k) (hk:k<s.size) (hp:Tk.lX s[k]=true):Pe s (k+1):=by
 intro j hj hjk;by_cases e:j=k
 ·subst e;exact hp
 ·exact h j hj agH
theorem ji (s:ByteArray) (w:World) (hm:s.size<=maxLen):
 Calls Tryz.prog 22 #[.string s] w λe w'=>e= .returned (.bool (Tk.jf s.data.toList))∧Below w.heap.size w w':=by
 have HN:=ah (Uj s.data.toList);rw[<- Lib.size_eq]at HN;unfold maxLen at hm;by_cases h1:s.size<1
 ·have HR:aj (Tk.jf s.data.toList=false):=by apply ah;rw[HN.o,show decide (1<=s.size)=false from decide_eq_false agH];rfl
  clear HN;go_enter Tryz.func22,Tryz.ntmps22;go_wp2;go_ret;exact⟨bW HR.o.symm,au _ _⟩
 ·by_cases h2:12<s.size
  ·have HR:aj (Tk.jf s.data.toList=false):=by apply ah;rw[HN.o,show decide (s.size<=12)=false from decide_eq_false agH];simp
   clear HN;go_enter Tryz.func22,Tryz.ntmps22;go_wp2;go_ret;exact⟨bW HR.o.symm,au _ _⟩
  ·have h0:0<s.size:=by omega
   have hhd:s.data.toList.head?.any Tk.BI=Tk.BI s[0]:=by rw[Tk.vI s h0];rfl
   cases hL:Tk.BI s[0]
   ·have HR:aj (Tk.jf s.data.toList=false):=(by apply ah;rw[HN.o];unfold Ow;rw[hhd,hL];simp);have hL':Tk.tO (s[0].toNat:Int)=false:=hL;clear HN hhd;go_enter Tryz.func22,Tryz.ntmps22;go_wp2_with (go_at_call 35;refine(BM _ _).mono ?_;rintro e w' ⟨rfl,rfl⟩);go_ret;exact⟨bW HR.o.symm,au _ _⟩
   ·have hL':Tk.tO (s[0].toNat:Int)=true:=hL;cases hK:Tk.vP s.data.toList
    ·have HR:aj (Tk.jf s.data.toList=s.data.toList.all Tk.lX):=(by apply ah;rw[HN.o];unfold Ow;rw[hhd,hL,hK,show decide (s.size<=12)=true from agK,show decide (1<=s.size)=true from agK];rfl);clear HN hhd hL;go_enter Tryz.func22,Tryz.ntmps22;go_wp2_with (first|(go_at_call 35;refine(BM _ _).mono ?_;rintro e w' ⟨rfl,rfl⟩)|(go_at_call 36;refine(CG _ _).mono ?_;rintro e w1 ⟨rfl,hb1⟩));have HB:=ah hb1;clear hb1;go_loop [3] (λi=> ∃k:Nat,k<=s.size∧i= .int .i64 k∧Pe s k) (λi=>s.size -(intOf i).toNat)
     case atStart=>exact⟨0,bF _,rfl,λj hj h=>absurd h agH⟩
     case round=>
      obtain⟨k,hk,rfl,hok⟩:=hrel;by_cases hlt:k<s.size
      ·cases hi:Tk.lX s[k]
       ·have hi':Tk.MX (s[k].toNat:Int)=false:=hi;have HF:=ah (au2 s k hlt hi);clear hi;go_wp2_with (go_at_call 37;refine(Ot _ _).mono ?_;rintro e w' ⟨rfl,rfl⟩);go_ret;exact⟨bW (HR.o.trans HF.o).symm,HB.o⟩
       ·have hi':Tk.MX (s[k].toNat:Int)=true:=hi;have hst:=hok.step hlt hi;clear hi;go_wp2_with (go_at_call 37;refine(Ot _ _).mono ?_;rintro e w' ⟨rfl,rfl⟩);go_round
        case rel=>exact⟨k+1,agH,agL,hst⟩
        case measure=>simp[intOf];omega
      ·obtain rfl:k=s.size:=agH;have HT:=ah (ZV s hok);go_wp2;go_ret;exact⟨bW (HR.o.trans HT.o).symm,HB.o⟩
    ·have HR:aj (Tk.jf s.data.toList=false):=(by apply ah;rw[HN.o,hK];simp);clear HN hhd hL;go_enter Tryz.func22,Tryz.ntmps22;go_wp2_with (first|(go_at_call 35;refine(BM _ _).mono ?_;rintro e w' ⟨rfl,rfl⟩)|(go_at_call 36;refine(CG _ _).mono ?_;rintro e w1 ⟨rfl,hb1⟩));go_ret;exact⟨bW HR.o.symm,hb1⟩
end Go.Proofs.YtdoplekppjkkpaaGreatDoor
