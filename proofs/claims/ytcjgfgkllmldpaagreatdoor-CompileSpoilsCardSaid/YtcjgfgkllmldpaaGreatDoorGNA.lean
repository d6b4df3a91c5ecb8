/- Contract of token.IsName. And what hangs on it. -/
import Derived.Test.YtcjgfgkllmldpaaGreatDoorGA
set_option linter.unusedSimpArgs false
set_option linter.unusedVariables false
set_option maxHeartbeats 40000000
set_option maxRecDepth 1000000
namespace Go.Proofs.YtcjgfgkllmldpaaGreatDoor
open Go.RowKit
def FR (s:ByteArray) (j:Nat) (h:j<s.size):Bool:=if j=0 then Tk.CO s[j]else Tk.mG s[j]
def TJ (s:ByteArray) (k:Nat):Prop:= ∀j (h:j<s.size),j<k->FR s j h=true
theorem TJ.step {s:ByteArray} {k:Nat} (h:TJ s k) (hk:k<s.size) (hp:FR s k hk=true):TJ s (k+1):=by
 intro j hj hjk;by_cases e:j=k
 ·subst e;exact hp
 ·exact h j hj ahf
def Rk (l:List UInt8):Bool:=l.head?.any Tk.CO&&l.all Tk.mG
theorem bi6 (s:ByteArray) (h0:0<s.size) (h:TJ s s.size):Rk s.data.toList=true:=by
 unfold Rk;rw[aM];constructor
 ·have:=h 0 h0 h0;unfold FR at this;rw[if_pos rfl]at this;rw[Tk.vR s h0];exact this
 ·rw[List.all_eq_true];intro c hc;obtain⟨j,hj,rfl⟩:=List.getElem_of_mem hc;have hj':j<s.size:=by rw[Lib.size_eq];exact hj
  have:=h j hj' hj';unfold FR at this;split at this
  ·exact UR _ this
  ·exact this
theorem bp3 (s:ByteArray) (k:Nat) (hk:k<s.size) (h:FR s k hk=false):Rk s.data.toList=false:=by
 unfold Rk;unfold FR at h;split at h
 ·rename_i e;subst e;have h1:s.data.toList.head?.any Tk.CO=false:=by rw[Tk.vR s hk];exact h
  rw[h1];rfl
 ·have h1:s.data.toList.all Tk.mG=false:=by rw[List.all_eq_false];exact⟨s[k],List.getElem_mem adx,ah0⟩
  rw[h1,Bool.and_false]
theorem XK (l:List UInt8):Tk.ji l=((decide (1<=l.length)&&decide (l.length<=12)&& !Tk.wE l)&&Rk l):=rfl
theorem az4 (s:ByteArray) (k:Nat) (hk:k<s.size) (r:Int) (hr:(s[k].toNat<128∧r=(s[k].toNat:Int))∨(128<=s[k].toNat∧128<=r)):
 (FR s k hk=true∧s[k].toNat<128∧((97<=r∧r<=122)∨(65<=r∧r<=90)))∨
 (FR s k hk=true∧s[k].toNat<128∧0<k∧(r=95∨(48<=r∧r<=57)))∨
 (FR s k hk=false∧ ¬(97<=r∧r<=122)∧ ¬(65<=r∧r<=90)∧(k=0∨(0<k∧r≠95∧ ¬(48<=r∧r<=57)))):=by
 unfold FR Tk.mG Tk.CO Tk.PZ Tk.uD Tk.sU;have hc:=s[k].toNat_lt;generalize s[k].toNat=c at *;by_cases h1:97<=(c:Int)∧(c:Int)<=122
 ·left;simp[h1];omega
 ·by_cases h2:65<=(c:Int)∧(c:Int)<=90
  ·left;simp[h2];omega
  ·by_cases h0:k=0
   ·right;right;simp[h0];omega
   ·by_cases h3:(c:Int)=95∨(48<=(c:Int)∧(c:Int)<=57)
    ·right;left;rw[if_neg h0];refine⟨?_,ahf,ahf,ahf⟩;simp only[Bool.or_eq_true,aM,decide_eq_true_eq,beq_iff_eq];omega
    ·right;right;rw[if_neg h0];refine⟨?_,ahf,ahf,ahf⟩;rw[Bool.eq_false_iff];simp only[ne_eq,Bool.or_eq_true,aM,decide_eq_true_eq,beq_iff_eq];omega
def aY3 (w:World) (s:ByteArray) (k:Nat) (wr:World):Prop:=wr=w.iter s k
theorem Iq (w:World) (s:ByteArray) (k:Nat):Below w.heap.size w (w.iter s k):=(ak _ _).alloc (aD _) _
theorem zZ (s:ByteArray) (w:World) (fG:eD w) (hm:s.size<=maxLen):
 Calls Tryz.prog 55 #[.string s] w λe w'=>e= .returned (.bool (Tk.ji s.data.toList))∧Below w.heap.size w w':=by
 have HN:=ah (XK s.data.toList);rw[<- Lib.size_eq]at HN;unfold maxLen at hm;by_cases h1:s.size<1
 ·have HR:aj (Tk.ji s.data.toList=false):=by apply ah;rw[HN.o,show decide (1<=s.size)=false from decide_eq_false ahf];rfl
  clear HN;go_enter Tryz.func55,Tryz.ntmps55;go_wp2;go_ret;exact⟨bZ HR.o.symm,ak _ _⟩
 ·by_cases h2:12<s.size
  ·have HR:aj (Tk.ji s.data.toList=false):=by apply ah;rw[HN.o,show decide (s.size<=12)=false from ahi];simp
   clear HN;go_enter Tryz.func55,Tryz.ntmps55;go_wp2;go_ret;exact⟨bZ HR.o.symm,ak _ _⟩
  ·cases hK:Tk.wE s.data.toList
   ·have HR:aj (Tk.ji s.data.toList=Rk s.data.toList):=(by apply ah;rw[HN.o,hK,show decide (s.size<=12)=true from ahi,show decide (1<=s.size)=true from ahi];rfl);clear HN;go_enter Tryz.func55,Tryz.ntmps55;go_wp2_with (go_at_call 93;refine(C8 _ _ fG).mono ?_;rintro e w' ⟨rfl,rfl⟩);go_loopw [3] (λ_ wr=> ∃k:Nat,k<=s.size∧aY3 w s k wr∧TJ s k) (λ_ wr=>s.size -wr.iterPos w.heap.size)
    case atStart=>exact⟨0,bC _,rfl,λj hj h=>absurd h ahf⟩
    case round=>
     obtain⟨k,hk,hit,hok⟩:=hrel;obtain rfl:wr=w.iter s k:=hit;by_cases hlt:k<s.size
     ·have hnx:=λty=>run_next_any (P:=Tryz.prog) w s k ty hlt;have hrr:(s[k].toNat<128∧((Utf8.decode s k).1:Int)=(s[k].toNat:Int))∨(128<=s[k].toNat∧128<=((Utf8.decode s k).1:Int)):=by
       by_cases ha:s[k].toNat<128
       ·left;exact⟨ha,by rw[decode_ascii s k hlt ha]⟩
       ·right;have:=decode_high s k hlt ahf;omega
      have hle:=decode_le s k;have HD:aj (s[k].toNat<128->(Utf8.decode s k).2=1):=ah λha=>by rw[decode_ascii s k hlt ha]
      have parts:=az4 s k hlt _ hrr;clear hrr hK;generalize (Utf8.decode s k).1=r at *;generalize (Utf8.decode s k).2=z at *;rcases parts with⟨hn,ha,hc⟩|⟨hn,ha,hk0,hc⟩|⟨hn,hA,hB,hC⟩
      ·have hst:=hok.step hlt hn;obtain rfl:z=1:=HD.o ha;clear hn HD;rcases hc with⟨q1,q2⟩|⟨q1,q2⟩
       all_goals
        go_wp2;go_roundw
        case rel=>exact⟨k+1,ahf,rfl,hst⟩
        case measure=>simp;omega
      ·have hst:=hok.step hlt hn;obtain rfl:z=1:=HD.o ha;clear hn HD;rcases hc with q1|⟨q1,q2⟩
       ·have q3:((r:Int)==95)=true:=(by rw[q1];rfl);have q4:95<=(r:Int):=ahf;have q5:(r:Int)<=95:=ahf;clear q1;go_wp2;go_roundw
        case rel=>exact⟨k+1,ahf,rfl,hst⟩
        case measure=>simp;omega
       ·have q3:((r:Int)==95)=false:=acA;go_wp2;go_roundw
        case rel=>exact⟨k+1,ahf,rfl,hst⟩
        case measure=>simp;omega
      ·have HF:=ah (bp3 s k hlt hn);clear hn HD;rcases hC with h0|⟨hk0,q1,q2⟩
       ·obtain rfl:k=0:=h0;go_wp2
        all_goals go_ret
        all_goals exact⟨bZ (HR.o.trans HF.o).symm,Iq _ _ _⟩
       ·have q3:((r:Int)==95)=false:=(by rw[beq_eq_false_iff_ne];exact q1);clear q1;go_wp2
        all_goals go_ret
        all_goals exact⟨bZ (HR.o.trans HF.o).symm,Iq _ _ _⟩
     ·obtain rfl:k=s.size:=ahf;have hnx:=λty=>run_next_end (P:=Tryz.prog) w s s.size ty ahf;have HT:=ah (bi6 s ahf hok);go_wp2;go_ret;exact⟨bZ (HR.o.trans HT.o).symm,Iq _ _ _⟩
   ·have HR:aj (Tk.ji s.data.toList=false):=(by apply ah;rw[HN.o,hK];simp);clear HN;go_enter Tryz.func55,Tryz.ntmps55;go_wp2_with (go_at_call 93;refine(C8 _ _ fG).mono ?_;rintro e w' ⟨rfl,rfl⟩);go_ret;exact⟨bZ HR.o.symm,ak _ _⟩
theorem D8 (c:Int) (w:World):
 Calls Tryz.prog 62 #[.int .u8 c] w λe w'=>e= .returned (.bool (Tk.uD c))∧w=w':=by
 unfold Tk.uD;go_enter Tryz.func62,Tryz.ntmps62;go_wp2
 all_goals go_ret
 all_goals first|(simp[*];done)|(simp[*];omega)
theorem ZW (c:Int) (w:World):
 Calls Tryz.prog 96 #[.int .u8 c] w λe w'=>e= .returned (.bool (Tk.sU c))∧w=w':=by
 unfold Tk.sU;go_enter Tryz.func96,Tryz.ntmps96;go_wp2
 all_goals go_ret
 all_goals first|(simp[*];done)|(simp[*];omega)
theorem Rh (c:Int) (w:World):
 Calls Tryz.prog 64 #[.int .u8 c] w λe w'=>e= .returned (.bool (Tk.PZ c))∧w=w':=by
 unfold Tk.PZ;go_enter Tryz.func64,Tryz.ntmps64;go_wp2_with (first|(go_at_call 62;refine(D8 _ _).mono ?_;rintro e w' ⟨rfl,rfl⟩)|(go_at_call 96;refine(ZW _ _).mono ?_;rintro e w' ⟨rfl,rfl⟩))
 all_goals go_ret
 all_goals first|(simp[*];done)|(simp[*];omega)
def Nc:List Value:=Tk.Ky.map λl=>Value.string ⟨l.toArray⟩
theorem Wn (k:Nat) (h:k<22):Nc[k]? =some (.string (Q5 k)):=by
 have hl:Tk.Ky.length=22:=rfl;unfold Nc Q5;rw[List.getElem?_map,aX ahf,UZ k ahf];rfl
theorem TG (w:World):
 Calls Tryz.prog 95 #[] w λe w'=>e= .returned (.slice (some ⟨w.heap.size,0,none⟩) 22 22)∧w.alloc (.cells Nc.toArray 9)=w':=by
 go_enter Tryz.func95,Tryz.ntmps95;go_wp2;go_ret;exact⟨rfl,rfl⟩
theorem E8 (s:ByteArray) (w:World):
 Calls Tryz.prog 63 #[.string s] w λe w'=>e= .returned (.bool (Tk.wE s.data.toList))∧Below w.heap.size w w':=by
 rw[<- Lib.toList_data];go_enter Tryz.func63,Tryz.ntmps63;go_wp2_with fail;refine(TG _).mono ?_;rintro e w1 ⟨rfl,hw⟩;have hcell: ∀k,k<22->w1.cell? ⟨w.heap.size,k,none⟩=some (.string (Q5 k)):=λk hk=>by rw[<- hw,Rj,Wn k hk]
 have HB:aj (Below w.heap.size w w1):=ah (by rw[<- hw];exact(ak _ _).alloc (aD _) _);have HC:=ah hcell;clear hw hcell;go_wp2;go_loop [4] (λi=> ∃k:Nat,k<=22∧i= .int .i64 k∧TK s.toList k) (λi=>22 -(intOf i).toNat)
 case atStart=>exact⟨0,bC _,rfl,λj hj=>absurd hj ahf⟩
 case round=>
  obtain⟨k,hk,rfl,hno⟩:=hrel;by_cases hlt:k<22
  ·have hix:=HC.o k hlt;have hat:=Mr k;by_cases he:(s.toList==Ew k)=true
   ·have he2:(Ew k==s.toList)=true:=(by rw[beq_iff_eq]at he⊢;exact he.symm);have HY:=ah (aj4 k hlt _ he);clear he;go_wp2;go_ret;exact⟨bZ HY.o.symm,HB.o⟩
   ·have he':(s.toList==Ew k)=false:=ahy;have he2:(Ew k==s.toList)=false:=(by rw[beq_eq_false_iff_ne]at he'⊢;exact he'.symm);have hst:=hno.step he';clear he he';go_wp2;go_round
    case rel=>exact⟨k+1,ahf,ahj,hst⟩
    case measure=>simp[intOf];omega
  ·obtain rfl:k=22:=by omega
   go_wp2;go_ret;exact⟨bZ (aI3 _ hno).symm,HB.o⟩
def Sm (s:ByteArray) (k:Nat):Prop:= ∀j (h:j<s.size),j<k->Tk.mG s[j]=true
theorem au4 (s:ByteArray) (h:Sm s s.size):s.data.toList.all Tk.mG=true:=by
 rw[List.all_eq_true];intro c hc;obtain⟨j,hj,rfl⟩:=List.getElem_of_mem hc;have hj':j<s.size:=by rw[Lib.size_eq];exact hj
 exact h j hj' hj'
theorem aL2 (s:ByteArray) (k:Nat) (hk:k<s.size) (h:Tk.mG s[k]=false):s.data.toList.all Tk.mG=false:=by
 rw[List.all_eq_false];exact⟨s[k],List.getElem_mem adx,ah0⟩
theorem Sm.step {s:ByteArray} {k:Nat} (h:Sm s k) (hk:k<s.size) (hp:Tk.mG s[k]=true):Sm s (k+1):=by
 intro j hj hjk;by_cases e:j=k
 ·subst e;exact hp
 ·exact h j hj ahf
theorem jl (s:ByteArray) (w:World) (hm:s.size<=maxLen):
 Calls Tryz.prog 35 #[.string s] w λe w'=>e= .returned (.bool (Tk.ji s.data.toList))∧Below w.heap.size w w':=by
 have HN:=ah (XK s.data.toList);rw[<- Lib.size_eq]at HN;unfold maxLen at hm;by_cases h1:s.size<1
 ·have HR:aj (Tk.ji s.data.toList=false):=by apply ah;rw[HN.o,show decide (1<=s.size)=false from decide_eq_false ahf];rfl
  clear HN;go_enter Tryz.func35,Tryz.ntmps35;go_wp2;go_ret;exact⟨bZ HR.o.symm,ak _ _⟩
 ·by_cases h2:12<s.size
  ·have HR:aj (Tk.ji s.data.toList=false):=by apply ah;rw[HN.o,show decide (s.size<=12)=false from decide_eq_false ahf];simp
   clear HN;go_enter Tryz.func35,Tryz.ntmps35;go_wp2;go_ret;exact⟨bZ HR.o.symm,ak _ _⟩
  ·have h0:0<s.size:=by omega
   have hhd:s.data.toList.head?.any Tk.CO=Tk.CO s[0]:=by rw[Tk.vR s h0];rfl
   cases hL:Tk.CO s[0]
   ·have HR:aj (Tk.ji s.data.toList=false):=(by apply ah;rw[HN.o];unfold Rk;rw[hhd,hL];simp);have hL':Tk.uD (s[0].toNat:Int)=false:=hL;clear HN hhd;go_enter Tryz.func35,Tryz.ntmps35;go_wp2_with (go_at_call 62;refine(D8 _ _).mono ?_;rintro e w' ⟨rfl,rfl⟩);go_ret;exact⟨bZ HR.o.symm,ak _ _⟩
   ·have hL':Tk.uD (s[0].toNat:Int)=true:=hL;cases hK:Tk.wE s.data.toList
    ·have HR:aj (Tk.ji s.data.toList=s.data.toList.all Tk.mG):=(by apply ah;rw[HN.o];unfold Rk;rw[hhd,hL,hK,show decide (s.size<=12)=true from ahi,show decide (1<=s.size)=true from ahi];rfl);clear HN hhd hL;go_enter Tryz.func35,Tryz.ntmps35;go_wp2_with (first|(go_at_call 62;refine(D8 _ _).mono ?_;rintro e w' ⟨rfl,rfl⟩)|(go_at_call 63;refine(E8 _ _).mono ?_;rintro e w1 ⟨rfl,hb1⟩));have HB:=ah hb1;clear hb1;go_loop [3] (λi=> ∃k:Nat,k<=s.size∧i= .int .i64 k∧Sm s k) (λi=>s.size -(intOf i).toNat)
     case atStart=>exact⟨0,bC _,rfl,λj hj h=>absurd h ahf⟩
     case round=>
      obtain⟨k,hk,rfl,hok⟩:=hrel;by_cases hlt:k<s.size
      ·cases hi:Tk.mG s[k]
       ·have hi':Tk.PZ (s[k].toNat:Int)=false:=hi;have HF:=ah (aL2 s k hlt hi);clear hi;go_wp2_with (go_at_call 64;refine(Rh _ _).mono ?_;rintro e w' ⟨rfl,rfl⟩);go_ret;exact⟨bZ (HR.o.trans HF.o).symm,HB.o⟩
       ·have hi':Tk.PZ (s[k].toNat:Int)=true:=hi;have hst:=hok.step hlt hi;clear hi;go_wp2_with (go_at_call 64;refine(Rh _ _).mono ?_;rintro e w' ⟨rfl,rfl⟩);go_round
        case rel=>exact⟨k+1,ahf,ahj,hst⟩
        case measure=>simp[intOf];omega
      ·obtain rfl:k=s.size:=ahf;have HT:=ah (au4 s hok);go_wp2;go_ret;exact⟨bZ (HR.o.trans HT.o).symm,HB.o⟩
    ·have HR:aj (Tk.ji s.data.toList=false):=(by apply ah;rw[HN.o,hK];simp);clear HN hhd hL;go_enter Tryz.func35,Tryz.ntmps35;go_wp2_with (first|(go_at_call 62;refine(D8 _ _).mono ?_;rintro e w' ⟨rfl,rfl⟩)|(go_at_call 63;refine(E8 _ _).mono ?_;rintro e w1 ⟨rfl,hb1⟩));go_ret;exact⟨bZ HR.o.symm,hb1⟩
end Go.Proofs.YtcjgfgkllmldpaaGreatDoor
