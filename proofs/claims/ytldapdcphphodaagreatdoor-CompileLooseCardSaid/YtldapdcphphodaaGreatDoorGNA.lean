/- Contract of token.IsName. And what hangs on it. -/
import Derived.Test.YtldapdcphphodaaGreatDoorGA
import Derived.Deep.QuietTactic
import Derived.BigQuiet
import Derived.Laws.RangeAny
set_option linter.unusedSimpArgs false
set_option linter.unusedVariables false
set_option maxHeartbeats 40000000
set_option maxRecDepth 1000000
namespace Go.Proofs.YtldapdcphphodaaGreatDoor
open Go.RowKit
def Du (s:ByteArray) (j:Nat) (h:j<s.size):Bool:=if j=0 then Tk.AJ s[j]else Tk.lu s[j]
def Pj (s:ByteArray) (k:Nat):Prop:= ∀j (h:j<s.size),j<k->Du s j h=true
theorem Pj.step {s:ByteArray} {k:Nat} (h:Pj s k) (hk:k<s.size) (hp:Du s k hk=true):Pj s (k+1):=by
 intro j hj hjk;by_cases e:j=k
 ·subst e;exact hp
 ·exact h j hj ahe
def NY (l:List UInt8):Bool:=l.head?.any Tk.AJ&&l.all Tk.lu
theorem aN6 (s:ByteArray) (h0:0<s.size) (h:Pj s s.size):NY s.data.toList=true:=by
 unfold NY;rw[aP];constructor
 ·have:=h 0 h0 h0;unfold Du at this;rw[if_pos rfl]at this;rw[Tk.uI s h0];exact this
 ·rw[List.all_eq_true];intro c hc;obtain⟨j,hj,rfl⟩:=List.getElem_of_mem hc;have hj':j<s.size:=by rw[Lib.size_eq];exact hj
  have:=h j hj' hj';unfold Du at this;split at this
  ·exact QD _ this
  ·exact this
theorem aS8 (s:ByteArray) (k:Nat) (hk:k<s.size) (h:Du s k hk=false):NY s.data.toList=false:=by
 unfold NY;unfold Du at h;split at h
 ·rename_i e;subst e;have h1:s.data.toList.head?.any Tk.AJ=false:=by rw[Tk.uI s hk];exact h
  rw[h1];rfl
 ·have h1:s.data.toList.all Tk.lu=false:=by rw[List.all_eq_false];exact⟨s[k],List.getElem_mem adM,ahS⟩
  rw[h1,Bool.and_false]
theorem TN (l:List UInt8):Tk.iZ l=((decide (1<=l.length)&&decide (l.length<=12)&& !Tk.uN l)&&NY l):=rfl
theorem ae4 (s:ByteArray) (k:Nat) (hk:k<s.size) (r:Int) (hr:(s[k].toNat<128∧r=(s[k].toNat:Int))∨(128<=s[k].toNat∧128<=r)):
 (Du s k hk=true∧s[k].toNat<128∧((97<=r∧r<=122)∨(65<=r∧r<=90)))∨
 (Du s k hk=true∧s[k].toNat<128∧0<k∧(r=95∨(48<=r∧r<=57)))∨
 (Du s k hk=false∧ ¬(97<=r∧r<=122)∧ ¬(65<=r∧r<=90)∧(k=0∨(0<k∧r≠95∧ ¬(48<=r∧r<=57)))):=by
 unfold Du Tk.lu Tk.AJ Tk.Ms Tk.sN Tk.rM;have hc:=s[k].toNat_lt;generalize s[k].toNat=c at *;by_cases h1:97<=(c:Int)∧(c:Int)<=122
 ·left;simp[h1];omega
 ·by_cases h2:65<=(c:Int)∧(c:Int)<=90
  ·left;simp[h2];omega
  ·by_cases h0:k=0
   ·right;right;simp[h0];omega
   ·by_cases h3:(c:Int)=95∨(48<=(c:Int)∧(c:Int)<=57)
    ·right;left;rw[if_neg h0];refine⟨?_,ahe,ahe,ahe⟩;simp only[Bool.or_eq_true,aP,decide_eq_true_eq,beq_iff_eq];omega
    ·right;right;rw[if_neg h0];refine⟨?_,ahe,ahe,ahe⟩;rw[Bool.eq_false_iff];simp only[ne_eq,Bool.or_eq_true,aP,decide_eq_true_eq,beq_iff_eq];omega
def aE1 (w:World) (s:ByteArray) (k:Nat) (wr:World):Prop:=wr=w.iter s k
theorem EU (w:World) (s:ByteArray) (k:Nat):Below w.heap.size w (w.iter s k):=(ak _ _).alloc (aH _) _
theorem xX (s:ByteArray) (w:World) (eD:dZ w) (hm:s.size<=maxLen):
 Calls Tryz.prog 54 #[.string s] w λe w'=>e= .returned (.bool (Tk.iZ s.data.toList))∧Below w.heap.size w w':=by
 have HN:=ah (TN s.data.toList);rw[<- Lib.size_eq]at HN;unfold maxLen at hm;by_cases h1:s.size<1
 ·have HR:aj (Tk.iZ s.data.toList=false):=by apply ah;rw[HN.o,show decide (1<=s.size)=false from decide_eq_false ahe];rfl
  clear HN;go_enter Tryz.func54,Tryz.ntmps54;go_wp2;go_ret;exact⟨bZ HR.o.symm,ak _ _⟩
 ·by_cases h2:12<s.size
  ·have HR:aj (Tk.iZ s.data.toList=false):=by apply ah;rw[HN.o,show decide (s.size<=12)=false from ahh];simp
   clear HN;go_enter Tryz.func54,Tryz.ntmps54;go_wp2;go_ret;exact⟨bZ HR.o.symm,ak _ _⟩
  ·cases hK:Tk.uN s.data.toList
   ·have HR:aj (Tk.iZ s.data.toList=NY s.data.toList):=(by apply ah;rw[HN.o,hK,show decide (s.size<=12)=true from ahh,show decide (1<=s.size)=true from ahh];rfl);clear HN;go_enter Tryz.func54,Tryz.ntmps54;go_wp2_with (go_at_call 89;refine(Aa _ _ eD).mono ?_;rintro e w' ⟨rfl,rfl⟩);go_loopw [3] (λ_ wr=> ∃k:Nat,k<=s.size∧aE1 w s k wr∧Pj s k) (λ_ wr=>s.size -wr.iterPos w.heap.size)
    case atStart=>exact⟨0,bF _,rfl,λj hj h=>absurd h ahe⟩
    case round=>
     obtain⟨k,hk,hit,hok⟩:=hrel;obtain rfl:wr=w.iter s k:=hit;by_cases hlt:k<s.size
     ·have hnx:=λty=>run_next_any (P:=Tryz.prog) w s k ty hlt;have hrr:(s[k].toNat<128∧((Utf8.decode s k).1:Int)=(s[k].toNat:Int))∨(128<=s[k].toNat∧128<=((Utf8.decode s k).1:Int)):=by
       by_cases ha:s[k].toNat<128
       ·left;exact⟨ha,by rw[decode_ascii s k hlt ha]⟩
       ·right;have:=decode_high s k hlt ahe;omega
      have hle:=decode_le s k;have HD:aj (s[k].toNat<128->(Utf8.decode s k).2=1):=ah λha=>by rw[decode_ascii s k hlt ha]
      have parts:=ae4 s k hlt _ hrr;clear hrr hK;generalize (Utf8.decode s k).1=r at *;generalize (Utf8.decode s k).2=z at *;rcases parts with⟨hn,ha,hc⟩|⟨hn,ha,hk0,hc⟩|⟨hn,hA,hB,hC⟩
      ·have hst:=hok.step hlt hn;obtain rfl:z=1:=HD.o ha;clear hn HD;rcases hc with⟨q1,q2⟩|⟨q1,q2⟩
       all_goals
        go_wp2;go_roundw
        case rel=>exact⟨k+1,ahe,rfl,hst⟩
        case measure=>simp;omega
      ·have hst:=hok.step hlt hn;obtain rfl:z=1:=HD.o ha;clear hn HD;rcases hc with q1|⟨q1,q2⟩
       ·have q3:((r:Int)==95)=true:=(by rw[q1];rfl);have q4:95<=(r:Int):=ahe;have q5:(r:Int)<=95:=ahe;clear q1;go_wp2;go_roundw
        case rel=>exact⟨k+1,ahe,rfl,hst⟩
        case measure=>simp;omega
       ·have q3:((r:Int)==95)=false:=acN;go_wp2;go_roundw
        case rel=>exact⟨k+1,ahe,rfl,hst⟩
        case measure=>simp;omega
      ·have HF:=ah (aS8 s k hlt hn);clear hn HD;rcases hC with h0|⟨hk0,q1,q2⟩
       ·obtain rfl:k=0:=h0;go_wp2
        all_goals go_ret
        all_goals exact⟨bZ (HR.o.trans HF.o).symm,EU _ _ _⟩
       ·have q3:((r:Int)==95)=false:=(by rw[beq_eq_false_iff_ne];exact q1);clear q1;go_wp2
        all_goals go_ret
        all_goals exact⟨bZ (HR.o.trans HF.o).symm,EU _ _ _⟩
     ·obtain rfl:k=s.size:=ahe;have hnx:=λty=>run_next_end (P:=Tryz.prog) w s s.size ty ahe;have HT:=ah (aN6 s ahe hok);go_wp2;go_ret;exact⟨bZ (HR.o.trans HT.o).symm,EU _ _ _⟩
   ·have HR:aj (Tk.iZ s.data.toList=false):=(by apply ah;rw[HN.o,hK];simp);clear HN;go_enter Tryz.func54,Tryz.ntmps54;go_wp2_with (go_at_call 89;refine(Aa _ _ eD).mono ?_;rintro e w' ⟨rfl,rfl⟩);go_ret;exact⟨bZ HR.o.symm,ak _ _⟩
theorem AU (c:Int) (w:World):
 Calls Tryz.prog 97 #[.int .u8 c] w λe w'=>e= .returned (.bool (Tk.sN c))∧w=w':=by
 unfold Tk.sN;go_enter Tryz.func97,Tryz.ntmps97;go_wp2
 all_goals go_ret
 all_goals first|(simp[*];done)|(simp[*];omega)
theorem VB (c:Int) (w:World):
 Calls Tryz.prog 137 #[.int .u8 c] w λe w'=>e= .returned (.bool (Tk.rM c))∧w=w':=by
 unfold Tk.rM;go_enter Tryz.func137,Tryz.ntmps137;go_wp2
 all_goals go_ret
 all_goals first|(simp[*];done)|(simp[*];omega)
theorem NT (c:Int) (w:World):
 Calls Tryz.prog 99 #[.int .u8 c] w λe w'=>e= .returned (.bool (Tk.Ms c))∧w=w':=by
 unfold Tk.Ms;go_enter Tryz.func99,Tryz.ntmps99;go_wp2_with (first|(go_at_call 97;refine(AU _ _).mono ?_;rintro e w' ⟨rfl,rfl⟩)|(go_at_call 137;refine(VB _ _).mono ?_;rintro e w' ⟨rfl,rfl⟩))
 all_goals go_ret
 all_goals first|(simp[*];done)|(simp[*];omega)
def JN:List Value:=Tk.Hf.map λl=>Value.string ⟨l.toArray⟩
theorem RU (k:Nat) (h:k<22):JN[k]? =some (.string (Mt k)):=by
 have hl:Tk.Hf.length=22:=rfl;unfold JN Mt;rw[List.getElem?_map,bJ ahe,QG k ahe];rfl
theorem Pf (w:World):
 Calls Tryz.prog 136 #[] w λe w'=>e= .returned (.slice (some ⟨w.heap.size,0,none⟩) 22 22)∧w.alloc (.cells JN.toArray 9)=w':=by
 go_enter Tryz.func136,Tryz.ntmps136;go_wp2;go_ret;exact⟨rfl,rfl⟩
theorem BP (s:ByteArray) (w:World):
 Calls Tryz.prog 98 #[.string s] w λe w'=>e= .returned (.bool (Tk.uN s.data.toList))∧Below w.heap.size w w':=by
 rw[<- Lib.toList_data];go_enter Tryz.func98,Tryz.ntmps98;go_wp2_with fail;refine(Pf _).mono ?_;rintro e w1 ⟨rfl,hw⟩;have hcell: ∀k,k<22->w1.cell? ⟨w.heap.size,k,none⟩=some (.string (Mt k)):=λk hk=>by rw[<- hw,NW,RU k hk]
 have HB:aj (Below w.heap.size w w1):=ah (by rw[<- hw];exact(ak _ _).alloc (aH _) _);have HC:=ah hcell;clear hw hcell;go_wp2;go_loop [4] (λi=> ∃k:Nat,k<=22∧i= .int .i64 k∧Pk s.toList k) (λi=>22 -(intOf i).toNat)
 case atStart=>exact⟨0,bF _,rfl,λj hj=>absurd hj ahe⟩
 case round=>
  obtain⟨k,hk,rfl,hno⟩:=hrel;by_cases hlt:k<22
  ·have hix:=HC.o k hlt;have hat:=Jc k;by_cases he:(s.toList==Cg k)=true
   ·have he2:(Cg k==s.toList)=true:=(by rw[beq_iff_eq]at he⊢;exact he.symm);have HY:=ah (XR k hlt _ he);clear he;go_wp2;go_ret;exact⟨bZ HY.o.symm,HB.o⟩
   ·have he':(s.toList==Cg k)=false:=ahH;have he2:(Cg k==s.toList)=false:=(by rw[beq_eq_false_iff_ne]at he'⊢;exact he'.symm);have hst:=hno.step he';clear he he';go_wp2;go_round
    case rel=>exact⟨k+1,ahe,ahi,hst⟩
    case measure=>simp[intOf];omega
  ·obtain rfl:k=22:=by omega
   go_wp2;go_ret;exact⟨bZ (an2 _ hno).symm,HB.o⟩
def Ow (s:ByteArray) (k:Nat):Prop:= ∀j (h:j<s.size),j<k->Tk.lu s[j]=true
theorem ZM (s:ByteArray) (h:Ow s s.size):s.data.toList.all Tk.lu=true:=by
 rw[List.all_eq_true];intro c hc;obtain⟨j,hj,rfl⟩:=List.getElem_of_mem hc;have hj':j<s.size:=by rw[Lib.size_eq];exact hj
 exact h j hj' hj'
theorem aq1 (s:ByteArray) (k:Nat) (hk:k<s.size) (h:Tk.lu s[k]=false):s.data.toList.all Tk.lu=false:=by
 rw[List.all_eq_false];exact⟨s[k],List.getElem_mem adM,ahS⟩
theorem Ow.step {s:ByteArray} {k:Nat} (h:Ow s k) (hk:k<s.size) (hp:Tk.lu s[k]=true):Ow s (k+1):=by
 intro j hj hjk;by_cases e:j=k
 ·subst e;exact hp
 ·exact h j hj ahe
theorem nG (s:ByteArray) (w:World) (hm:s.size<=maxLen):
 Calls Tryz.prog 69 #[.string s] w λe w'=>e= .returned (.bool (Tk.iZ s.data.toList))∧Below w.heap.size w w':=by
 have HN:=ah (TN s.data.toList);rw[<- Lib.size_eq]at HN;unfold maxLen at hm;by_cases h1:s.size<1
 ·have HR:aj (Tk.iZ s.data.toList=false):=by apply ah;rw[HN.o,show decide (1<=s.size)=false from decide_eq_false ahe];rfl
  clear HN;go_enter Tryz.func69,Tryz.ntmps69;go_wp2;go_ret;exact⟨bZ HR.o.symm,ak _ _⟩
 ·by_cases h2:12<s.size
  ·have HR:aj (Tk.iZ s.data.toList=false):=by apply ah;rw[HN.o,show decide (s.size<=12)=false from decide_eq_false ahe];simp
   clear HN;go_enter Tryz.func69,Tryz.ntmps69;go_wp2;go_ret;exact⟨bZ HR.o.symm,ak _ _⟩
  ·have h0:0<s.size:=by omega
   have hhd:s.data.toList.head?.any Tk.AJ=Tk.AJ s[0]:=by rw[Tk.uI s h0];rfl
   cases hL:Tk.AJ s[0]
   ·have HR:aj (Tk.iZ s.data.toList=false):=(by apply ah;rw[HN.o];unfold NY;rw[hhd,hL];simp);have hL':Tk.sN (s[0].toNat:Int)=false:=hL;clear HN hhd;go_enter Tryz.func69,Tryz.ntmps69;go_wp2_with (go_at_call 97;refine(AU _ _).mono ?_;rintro e w' ⟨rfl,rfl⟩);go_ret;exact⟨bZ HR.o.symm,ak _ _⟩
   ·have hL':Tk.sN (s[0].toNat:Int)=true:=hL;cases hK:Tk.uN s.data.toList
    ·have HR:aj (Tk.iZ s.data.toList=s.data.toList.all Tk.lu):=(by apply ah;rw[HN.o];unfold NY;rw[hhd,hL,hK,show decide (s.size<=12)=true from ahh,show decide (1<=s.size)=true from ahh];rfl);clear HN hhd hL;go_enter Tryz.func69,Tryz.ntmps69;go_wp2_with (first|(go_at_call 97;refine(AU _ _).mono ?_;rintro e w' ⟨rfl,rfl⟩)|(go_at_call 98;refine(BP _ _).mono ?_;rintro e w1 ⟨rfl,hb1⟩));have HB:=ah hb1;clear hb1;go_loop [3] (λi=> ∃k:Nat,k<=s.size∧i= .int .i64 k∧Ow s k) (λi=>s.size -(intOf i).toNat)
     case atStart=>exact⟨0,bF _,rfl,λj hj h=>absurd h ahe⟩
     case round=>
      obtain⟨k,hk,rfl,hok⟩:=hrel;by_cases hlt:k<s.size
      ·cases hi:Tk.lu s[k]
       ·have hi':Tk.Ms (s[k].toNat:Int)=false:=hi;have HF:=ah (aq1 s k hlt hi);clear hi;go_wp2_with (go_at_call 99;refine(NT _ _).mono ?_;rintro e w' ⟨rfl,rfl⟩);go_ret;exact⟨bZ (HR.o.trans HF.o).symm,HB.o⟩
       ·have hi':Tk.Ms (s[k].toNat:Int)=true:=hi;have hst:=hok.step hlt hi;clear hi;go_wp2_with (go_at_call 99;refine(NT _ _).mono ?_;rintro e w' ⟨rfl,rfl⟩);go_round
        case rel=>exact⟨k+1,ahe,ahi,hst⟩
        case measure=>simp[intOf];omega
      ·obtain rfl:k=s.size:=ahe;have HT:=ah (ZM s hok);go_wp2;go_ret;exact⟨bZ (HR.o.trans HT.o).symm,HB.o⟩
    ·have HR:aj (Tk.iZ s.data.toList=false):=(by apply ah;rw[HN.o,hK];simp);clear HN hhd hL;go_enter Tryz.func69,Tryz.ntmps69;go_wp2_with (first|(go_at_call 97;refine(AU _ _).mono ?_;rintro e w' ⟨rfl,rfl⟩)|(go_at_call 98;refine(BP _ _).mono ?_;rintro e w1 ⟨rfl,hb1⟩));go_ret;exact⟨bZ HR.o.symm,hb1⟩
end Go.Proofs.YtldapdcphphodaaGreatDoor
