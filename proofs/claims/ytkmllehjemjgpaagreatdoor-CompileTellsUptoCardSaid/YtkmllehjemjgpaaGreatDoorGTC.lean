/- Contracts of token.number and token.first. And what hangs on it. -/
import Derived.Test.YtkmllehjemjgpaaGreatDoorGTB
import Derived.Test.YtkmllehjemjgpaaGreatDoorGA
set_option linter.unusedSimpArgs false
set_option linter.unusedVariables false
set_option maxHeartbeats 40000000
set_option maxRecDepth 1000000
namespace Go.Proofs.YtkmllehjemjgpaaGreatDoor
open Go.RowKit
def DL (s:ByteArray):ByteArray:=⟨(s.data.toList.dropWhile (· ==48)).toArray⟩
theorem Q0 (s:ByteArray):(DL s).toList=s.data.toList.dropWhile (· ==48):=by unfold DL;rw[Lib.toList_data]
theorem WA (s:ByteArray):(DL s).size=(s.data.toList.dropWhile (· ==48)).length:=by unfold DL;exact Lib.size_mk _
theorem RO (s:ByteArray) (w:World) (h:s.toList.isEmpty=false):
 Calls Tryz.prog 151 #[.string s,.string ⟨#[48]⟩] w λe w'=>e= .returned (.string (DL s))∧w=w':=M6 s w h
def Ni (z:ByteArray) (R:Nat×Nat×List UInt8) (k:Nat) (l:List UInt8):Prop:=
 (19<z.size∧R=(3,0,[]))∨(z.size<19∧R=(0,2,l))∨
 (z.size=19∧Op.bytesLess z.toList [57,50,50,51,51,55,50,48,51,54,56,53,52,55,55,53,56,48,55]=true∧R=(0,2,l))∨
 (z.size=19∧Op.bytesLess z.toList [57,50,50,51,51,55,50,48,51,54,56,53,52,55,55,53,56,48,55]=false∧(z.toList== [57,50,50,51,51,55,50,48,51,54,56,53,52,55,55,53,56,48,55])=true∧R=(0,2,l))∨
 (z.size=19∧Op.bytesLess z.toList [57,50,50,51,51,55,50,48,51,54,56,53,52,55,55,53,56,48,55]=false∧(z.toList== [57,50,50,51,51,55,50,48,51,54,56,53,52,55,55,53,56,48,55])=false∧R=(3,0,[]))∧0<=k
theorem J6 (p:UInt8->Bool): ∀l:List UInt8,(l.takeWhile p).all p=true
 | []=>rfl
 |c::l=>by
  rw[List.takeWhile_cons];split
  ·rename_i h;rw[List.all_cons,h,J6 p l];rfl
  ·rfl
theorem Yq (l:List UInt8) (h:(l.dropWhile Tk.kJ).head?.any Tk.kr=true):Tk.AU l=(3,0,[]):=by
 unfold Tk.AU;rw[h];rfl
theorem ax9 (s:ByteArray) (k:Nat) (hlen:(s.data.toList.takeWhile Tk.kJ).length=k) (h:(s.data.toList.dropWhile Tk.kJ).head?.any Tk.kr=false):
 Ni (DL (s.extract 0 k)) (Tk.AU s.data.toList) k (s.data.toList.takeWhile Tk.kJ):=by
 have ha:=J6 Tk.kJ s.data.toList;unfold Ni Tk.AU;rw[Q0,WA,Jl hlen,h,Bool.false_or];generalize s.data.toList.takeWhile Tk.kJ=d at *;rcases Nat.lt_trichotomy 19 (d.dropWhile (· ==48)).length with h1|h1|h1
 ·left;refine⟨h1,?_⟩;rw[Tk.SI d ha h1];rfl
 ·right;right;have hq:=Tk.Yp d ha h1.symm;unfold Tk.great at hq;generalize Op.bytesLess (d.dropWhile (· ==48)) [57,50,50,51,51,55,50,48,51,54,56,53,52,55,55,53,56,48,55]=a at *;generalize (d.dropWhile (· ==48)== [57,50,50,51,51,55,50,48,51,54,56,53,52,55,55,53,56,48,55])=b at *;rw[<- hq];cases a <;> cases b <;> simp[h1.symm]
 ·right;left;refine⟨h1,?_⟩;rw[Tk.PS d ha h1];rfl
theorem QM {p q:UInt8->Bool} {s:ByteArray} {k:Nat} (h:(s.data.toList.takeWhile p).length=k) (hlt:k<s.size):(s.data.toList.dropWhile p).head?.any q=q s[k]:=by
 have e:s.data.toList.dropWhile p=s.data.toList.drop k:=by rw[<- h,Tk.tL]
 have hl:k<s.data.toList.length:=by rw[<- Lib.size_eq];exact hlt
 rw[e,List.drop_eq_getElem_cons hl];rfl
theorem O9 {p q:UInt8->Bool} {s:ByteArray} {k:Nat} (h:(s.data.toList.takeWhile p).length=k) (hlt: ¬k<s.size):(s.data.toList.dropWhile p).head?.any q=false:=by
 have e:s.data.toList.dropWhile p=s.data.toList.drop k:=by rw[<- h,Tk.tL]
 rw[e,List.drop_of_length_le (by rw[<- Lib.size_eq];omega)];rfl
theorem SK (s:ByteArray) (w:World) (hs:s.size<=4096) (h0:0<s.size) (hD:Tk.kJ s[0]=true):
 Calls Tryz.prog 138 #[.string s] w λe w'=>e= .returned (xA (Tk.AU s.data.toList))∧Below w.heap.size w w':=by
 have hin1:DW Tk.kJ s 1:=DW.one h0 hD;clear hD;go_enter Tryz.func138,Tryz.ntmps138;go_wp2;go_loop [4] (λi=> ∃k:Nat,1<=k∧k<=s.size∧i= .int .i64 k∧DW Tk.kJ s k) (λi=>s.size -(intOf i).toNat)
 case atStart=>exact⟨1,Nat.le_refl _,h0,rfl,hin1⟩
 case round=>
  obtain⟨k,hk1,hk,rfl,hin⟩:=hrel;clear hin1;by_cases hc: ∃h:k<s.size,Tk.kJ s[k]=true
  ·obtain⟨hlt,hi⟩:=hc;have hst:=hin.step hlt hi;have h1:Tk.qz (s[k].toNat:Int)=true:=hi;clear hi;go_wp2_with (go_at_call 137;refine(mV _ _).mono ?_;rintro e w' ⟨rfl,rfl⟩);go_round
   case rel=>exact⟨k+1,by omega,by omega,by go_num,hst⟩
   case measure=>simp[intOf];omega
  ·have hlen:(s.data.toList.takeWhile Tk.kJ).length=k:=hin.len hk (λh=>by rw[Bool.eq_false_iff];exact λe=>hc ⟨h,e⟩);have EX:=ah (Dk hlen);have hne:(s.extract 0 k).toList.isEmpty=false:=by
    rw[Lib.extract_toList];have:0<s.data.toList.length:=(by rw[<- Lib.size_eq];exact h0);cases hd:s.data.toList with
    |nil=>rw[hd]at this;simp at this
    |cons a r=>simp;omega
   by_cases hA: ∃h:k<s.size,Tk.kr s[k]=true
   ·obtain⟨hlt,hi⟩:=hA;have h2:Tk.qz (s[k].toNat:Int)=false:=(by show Tk.kJ s[k]=false;rw[Bool.eq_false_iff];exact λe=>hc ⟨hlt,e⟩);have HR:aj (Tk.AU s.data.toList=(3,0,[])):=ah (Yq _ (by rw[QM hlen hlt];exact hi));clear hc hlen;rcases BD s[k]with⟨_,h1⟩|⟨_,_,h3⟩|⟨_,h1,_,h3⟩|⟨h4,_⟩
    case inr.inr.inr=>rw[hi]at h4;cases h4
    case inr.inl=>rw[h2]at h3;cases h3
    all_goals clear hi;go_wp2_with (first|(go_at_call 135;refine(ny _ _).mono ?_;rintro e w' ⟨rfl,rfl⟩)|(go_at_call 137;refine(mV _ _).mono ?_;rintro e w' ⟨rfl,rfl⟩));exact bodyPost_ret (v:= .tuple #[.agg #[.int .i64 0,.string ⟨#[]⟩,.int .i64 0],.int .i64 3]) (by simp[results,Tryz.results138,go_sem]) rfl ⟨by rw[HR.o];rfl,(Below.refl _ _).alloc (Nat.le_refl _) _⟩
   ·have HN:aj (Ni (DL (s.extract 0 k)) (Tk.AU s.data.toList) k (s.data.toList.takeWhile Tk.kJ)):=by
     refine ah (ax9 s k hlen ?_);by_cases hlt:k<s.size
     ·rw[QM hlen hlt,Bool.eq_false_iff];exact λe=>hA ⟨hlt,e⟩
     ·exact O9 hlen hlt
    have go: ∀Z:Prop,((hlt:k<s.size)->Tk.qU (s[k].toNat:Int)=false->Tk.qz (s[k].toNat:Int)=false->((s[k].toNat:Int)==95)=false->Z)->(¬k<s.size->Z)->Z:=by
     intro Z h1 h2;by_cases hlt:k<s.size
     ·rcases BD s[k]with⟨h,_⟩|⟨h,_⟩|⟨h,_⟩|⟨_,ha,hb,hcc⟩
      ·exact absurd ⟨hlt,h⟩ hA
      ·exact absurd ⟨hlt,h⟩ hA
      ·exact absurd ⟨hlt,h⟩ hA
      ·exact h1 hlt ha hb hcc
     ·exact h2 hlt
    clear hc hA hlen;rcases HN.o with⟨z1,hR⟩|⟨z1,hR⟩|⟨z1,z2,hR⟩|⟨z1,z2,z3,hR⟩|⟨⟨z1,z2,z3,hR⟩,_⟩
    all_goals have HRR:=ah hR;have zb:(((DL (s.extract 0 k)).size:Int)==19)=decide ((DL (s.extract 0 k)).size=19):=(by rw[Bool.eq_iff_iff];simp;omega);clear hR HN;refine go _ (λhlt t1 t2 t3=> ?_) (λhlt=> ?_)
    all_goals clear go;go_wp2_with (first|(go_at_call 135;refine(ny _ _).mono ?_;rintro e w' ⟨rfl,rfl⟩)|(go_at_call 137;refine(mV _ _).mono ?_;rintro e w' ⟨rfl,rfl⟩)|(go_at_call 151;refine(RO _ _ hne).mono ?_;rintro e w' ⟨rfl,rfl⟩))
    all_goals first
     |exact bodyPost_ret (v:= .tuple #[.agg #[.int .i64 0,.string ⟨#[]⟩,.int .i64 0],.int .i64 3]) (by simp[results,Tryz.results138,go_sem]) rfl ⟨by rw[HRR.o];rfl,(Below.refl _ _).alloc (Nat.le_refl _) _⟩
     |exact bodyPost_ret (v:= .tuple #[.agg #[.int .i64 2,.string (s.extract 0 k),.int .i64 0],.int .i64 0]) (by simp[results,Tryz.results138,go_sem]) rfl ⟨by rw[HRR.o,EX.o];rfl,(Below.refl _ _).alloc (Nat.le_refl _) _⟩
theorem Zv {W w1:World} (hb:Below W.heap.size W w1):(∀b o,b<W.heap.size->w1.cell? ⟨b,o,none⟩=W.cell? ⟨b,o,none⟩)∧(∀b o,b<W.heap.size->w1.frozen? ⟨b,o,none⟩=W.frozen? ⟨b,o,none⟩):=
 ⟨λb o h=>hb.cell (p:=⟨b,o,none⟩) h,λb o h=>hb.frozen (p:=⟨b,o,none⟩) h⟩
theorem aC9 (l:List UInt8):(Tk.nC l).length<=l.length:=by
 rw[Tk.CK];split
 ·rw[List.length_take];omega
 ·split
  ·rw[List.length_take];omega
  ·simp
theorem ae3 (l:List UInt8):l.take (Tk.nC l).length=Tk.nC l:=by
 rw[Tk.CK];split
 ·rw[List.length_take,List.take_eq_take_iff];omega
 ·split
  ·rw[List.length_take,List.take_eq_take_iff];omega
  ·rfl
theorem Lm (s:ByteArray) (w:World) (hs:s.size<=4096) (h0:0<s.size) (dG:dD w):
 Calls Tryz.prog 99 #[.string s] w λe w'=>e= .returned (xA (Tk.first s.data.toList))∧Below w.heap.size w w':=by
 have hhd:=ac7 s h0;cases hL:Tk.zC s[0]
 ·have h1:Tk.qU (s[0].toNat:Int)=false:=hL;cases hD:Tk.kJ s[0]
  ·have h2:Tk.qz (s[0].toNat:Int)=false:=hD;have HR:aj (Tk.first s.data.toList=Tk.Ko s.data.toList):=by apply ah;unfold Tk.first;rw[hhd,hL,hD];rfl
   clear hhd hL hD;have HE:aj (s.extract 0 (Tk.nC s.data.toList).length=⟨(Tk.nC s.data.toList).toArray⟩):=by apply ah;rw[Lib.extract_upto,ae3]
   have hle:(Tk.nC s.data.toList).length<=s.size:=by rw[Lib.size_eq];exact aC9 _
   have HS:aj (Tk.Ko s.data.toList=if(Tk.nC s.data.toList).isEmpty then(3,0,[])else(0,4,Tk.nC s.data.toList)):=ah rfl;by_cases hn:(Tk.nC s.data.toList).length=0
   ·have hn0:Tk.nC s.data.toList=[]:=List.eq_nil_of_length_eq_zero hn;have HS2:aj (Tk.Ko s.data.toList=(3,0,[])):=(by apply ah;rw[HS.o,hn0];rfl);have hb0:(((Tk.nC s.data.toList).length:Int)==0)=true:=(by rw[hn];rfl);clear HS HE hn hn0;go_enter Tryz.func99,Tryz.ntmps99;go_wp2_with (first|(go_at_call 135;refine(ny _ _).mono ?_;rintro e w' ⟨rfl,rfl⟩)|(go_at_call 137;refine(mV _ _).mono ?_;rintro e w' ⟨rfl,rfl⟩)|(go_at_call 139;refine(OU _ _ h0).mono ?_;rintro e w' ⟨rfl,rfl⟩));exact bodyPost_ret (v:= .tuple #[.agg #[.int .i64 0,.string ⟨#[]⟩,.int .i64 0],.int .i64 3]) (by simp[results,Tryz.results99,go_sem]) rfl ⟨by rw[HR.o,HS2.o];rfl,(Below.refl _ _).alloc (Nat.le_refl _) _⟩
   ·have HS2:aj (Tk.Ko s.data.toList=(0,4,Tk.nC s.data.toList)):=(by apply ah;rw[HS.o,if_neg];intro h;exact hn (by rw[List.isEmpty_iff]at h;rw[h];rfl));have hb0:(((Tk.nC s.data.toList).length:Int)==0)=false:=(by rw[beq_eq_false_iff_ne];omega);clear HS;go_enter Tryz.func99,Tryz.ntmps99;go_wp2_with (first|(go_at_call 135;refine(ny _ _).mono ?_;rintro e w' ⟨rfl,rfl⟩)|(go_at_call 137;refine(mV _ _).mono ?_;rintro e w' ⟨rfl,rfl⟩)|(go_at_call 139;refine(OU _ _ h0).mono ?_;rintro e w' ⟨rfl,rfl⟩));exact bodyPost_ret (v:= .tuple #[.agg #[.int .i64 4,.string (s.extract 0 (Tk.nC s.data.toList).length),.int .i64 0],.int .i64 0]) (by simp[results,Tryz.results99,go_sem]) rfl ⟨by rw[HR.o,HS2.o,HE.o];rfl,(Below.refl _ _).alloc (Nat.le_refl _) _⟩
  ·have h2:Tk.qz (s[0].toNat:Int)=true:=hD;have HR:aj (Tk.first s.data.toList=Tk.AU s.data.toList):=by apply ah;unfold Tk.first;rw[hhd,hL,hD];rfl
   clear hhd;generalize hr:Tk.AU s.data.toList=r at *;have Hr:=ah hr;clear hr;go_enter Tryz.func99,Tryz.ntmps99;go_wp2_with (first|(go_at_call 135;refine(ny _ _).mono ?_;rintro e w' ⟨rfl,rfl⟩)|(go_at_call 137;refine(mV _ _).mono ?_;rintro e w' ⟨rfl,rfl⟩));refine(SK s _ hs h0 hD).mono ?_;rintro e w1 ⟨rfl,hb⟩;rw[Hr.o];obtain⟨hc,hf⟩:=Zv hb;have hz:w.heap.size<w1.heap.size:=by have:=hb.size;simp at this;omega
   unfold xA;go_wp2;refine bodyPost_ret (v:=xA r) (by simp[results,Tryz.results99,go_sem,xA,hc]) rfl ⟨by rw[HR.o],?_⟩;exact(((((Below.refl _ _).alloc (Nat.le_refl _) _).trans (hb.mono (by simp))).setCell (by simp) _).setCell (by simp) _).setCell (by simp) _
 ·have HR:aj (Tk.first s.data.toList=Tk.su s.data.toList):=by apply ah;unfold Tk.first;rw[hhd,if_pos hL]
  have h1:Tk.qU (s[0].toNat:Int)=true:=hL;clear hhd;generalize hr:Tk.su s.data.toList=r at *;have Hr:=ah hr;clear hr;go_enter Tryz.func99,Tryz.ntmps99;go_wp2_with (first|(go_at_call 135;refine(ny _ _).mono ?_;rintro e w' ⟨rfl,rfl⟩)|(go_at_call 137;refine(mV _ _).mono ?_;rintro e w' ⟨rfl,rfl⟩));refine(YW s _ hs h0 hL (dG.alloc _)).mono ?_;rintro e w1 ⟨rfl,hb⟩;rw[Hr.o];obtain⟨hc,hf⟩:=Zv hb;have hz:w.heap.size<w1.heap.size:=by have:=hb.size;simp at this;omega
  unfold xA;go_wp2;refine bodyPost_ret (v:=xA r) (by simp[results,Tryz.results99,go_sem,xA,hc]) rfl ⟨by rw[HR.o],?_⟩;exact(((((Below.refl _ _).alloc (Nat.le_refl _) _).trans (hb.mono (by simp))).setCell (by simp) _).setCell (by simp) _).setCell (by simp) _
theorem Tryz.infoTok:(Tryz.prog.info? 145).map (λi=>(i.zero,i.size,i.bytes))=some (some (.agg #[.int .i64 0,.string ⟨#[]⟩,.int .i64 0]),3,32):=by kernel_rfl
def Ns (w:World) (r:List Tk.Tok×Nat×Nat) (e:Ending) (w':World):Prop:=
 ∃v:Value,e= .returned (.tuple #[v,.int .i64 r.2.1,.int .i64 r.2.2])∧w'.ownsRow w.heap.size 145 3 v r.1.length (Tk.cellsOf r.1)∧Below w.heap.size w w'
theorem own_below {w w':World} {base:Nat} {e:TypeId} {size:Nat} {v:Value} {n:Nat} {xs:List Value} (h:w.ownsRow base e size v n xs) (hb:Below w.heap.size w w'):w'.ownsRow base e size v n xs:=
 h.kept (row:=none) ⟨hb.os,hb.tape,hb.output,hb.size,λi hi _=>hb.block i hi⟩ (by cases hv:v.ownBlock <;> simp)
theorem YQ {w1 w2:World} {base:Nat} {e:TypeId} {size:Nat} {u:Value} {n:Nat} {xs:List Value} (h:w1.ownsRow base e size u n xs) (cs:Array Value) (t:TypeId) (o:Obj)
 (hg:((w1.alloc (.cells cs t)).alloc o).grownBy w2 u.ownBlock) (j:Nat):w2.cell? ⟨w1.heap.size,j,none⟩=cs[j]?:=by
 have e1:w2.heap[w1.heap.size]? =((w1.alloc (.cells cs t)).alloc o).heap[w1.heap.size]?:=hg.block _ (by simp;omega) (λe=>by have:=(h.lt _ e.symm).2;omega);have e2:((w1.alloc (.cells cs t)).alloc o).heap[w1.heap.size]? =some (.cells cs t (0,0)):=by rw[Below.heap_alloc _ _ _ (by simp)];exact heap_alloc_new w1 _
 exact cell_of_row w2 w1.heap.size j cs t (0,0) (e1.trans e2)
theorem Wm {B:Nat} {w w1 w2:World} {e:TypeId} {size:Nat} {u:Value} {n:Nat} {xs:List Value} (h:w1.ownsRow B e size u n xs) (hb:Below B w w1) (hB:B<=w1.heap.size) (o1 o2:Obj)
 (hg:((w1.alloc o1).alloc o2).grownBy w2 u.ownBlock):Below B w w2:=
 ((hb.alloc hB o1).alloc (by simp;omega) o2).grown hg (by simp;omega) (λk hk=>(h.lt _ hk).1)
def ay0 (s:ByteArray):Bool:=[47,47].isPrefixOf s.data.toList
def RZ (s:ByteArray):Nat:=Tk.DY s.data.toList
theorem wN (s:ByteArray) (w:World):
 Calls Tryz.prog 97 #[.string s,.string ⟨#[47,47]⟩] w λe w'=>e= .returned (.bool (ay0 s))∧w=w':=LZ s _ w
theorem Ut (s:ByteArray) (w:World) (hs:s.size<=4096):
 Calls Tryz.prog 98 #[.string s] w λe w'=>e= .returned (.int .i64 (RZ s))∧w=w':=Px s w hs
theorem BH (s:ByteArray) (k:Nat):(s.extract k s.size).data.toList=s.data.toList.drop k:=by
 rw[Lib.extract_data,List.take_of_length_le (by rw[List.length_drop,Lib.size_eq];exact Nat.le_refl _)]
theorem aC6 (c:UInt8) (h:c≠10):((c.toNat:Int)==10)=false:=by
 rw[beq_eq_false_iff_ne];intro e;exact h (UInt8.toNat_inj.1 (by rw[show c.toNat=10 from by omega];rfl))
theorem Pq (c:UInt8):((c=32∨c=9∨c=13)∧(((c.toNat:Int)==32)=true∨(((c.toNat:Int)==32)=false∧((c.toNat:Int)==9)=true)∨(((c.toNat:Int)==32)=false∧((c.toNat:Int)==9)=false∧((c.toNat:Int)==13)=true)))∨
 (¬(c=32∨c=9∨c=13)∧((c.toNat:Int)==32)=false∧((c.toNat:Int)==9)=false∧((c.toNat:Int)==13)=false):=by
 by_cases h1:c=32
 ·subst h1;left;exact⟨.inl rfl,.inl rfl⟩
 ·by_cases h2:c=9
  ·subst h2;left;exact⟨.inr (.inl rfl),.inr (.inl ⟨rfl,rfl⟩)⟩
  ·by_cases h3:c=13
   ·subst h3;left;exact⟨.inr (.inr rfl),.inr (.inr ⟨rfl,rfl,rfl⟩)⟩
   ·right;have nb: ∀x:UInt8,c≠x->((c.toNat:Int)==(x.toNat:Int))=false:=(by intro x h;rw[beq_eq_false_iff_ne];intro e;exact h (UInt8.toNat_inj.1 (by omega)));exact⟨by simp[h1,h2,h3],nb 32 h1,nb 9 h2,nb 13 h3⟩
theorem Xl (s:ByteArray) (w:World) (dG:dD w) (hm:s.size<=maxLen):
 Calls Tryz.prog 72 #[.string s] w (Ns w (Tk.scan s.data.toList)):=by
 have hsz:=Lib.size_eq s;unfold maxLen at hm;by_cases hbig:4096<s.size
 ·have HR:aj (Tk.scan s.data.toList=([],2,0)):=by apply ah;unfold Tk.scan;rw[if_pos (by omega)]
  clear hsz;go_enter Tryz.func72,Tryz.ntmps72;go_wp2
  go_ret3
  rw[HR.o];exact⟨_,rfl,World.ownsRow_nil _ _ _ _,Below.refl _ _⟩
 ·have HR:aj (Tk.scan s.data.toList=Tk.kX s.data.toList.length s.data.toList 1 []):=by apply ah;unfold Tk.scan;rw[if_neg (by omega)]
  have hst:=Tk.SP.start s.data.toList;rw[<- HR.o]at hst;generalize Tk.scan s.data.toList=R at *;clear HR hsz;obtain⟨i0,hi,hz0,hz1,hz2⟩:=info_parts Tryz.infoTok;have hs:s.size<=4096:=by omega
  clear hbig hm;go_enter Tryz.func72,Tryz.ntmps72;go_wp2;go_loopw [5,6,7] (λv ln i wr=> ∃(k line:Nat) (acc:List Tk.Tok),i= .int .i64 k∧ln= .int .i64 line∧Tk.SP s.data.toList R k line acc∧
   wr.ownsRow w.heap.size 145 3 v acc.length (Tk.cellsOf acc)∧Below w.heap.size w wr) (λ_ _ i _=>s.size -(intOf i).toNat)
  case atStart=>exact⟨0,1,[],rfl,rfl,hst,World.ownsRow_nil _ _ _ _,Below.refl _ _⟩
  case round=>
   obtain⟨k,line,acc,rfl,rfl,hsp,hown,hbel⟩:=hrel;clear hst;have hk:k<=s.size:=by rw[Lib.size_eq];exact hsp.1
   have bh4:line<=k+1:=hsp.2.1;by_cases hlt:k<s.size
   ·have hlt':k<s.data.toList.length:=(by rw[<- Lib.size_eq];exact hlt);have hget:s.data.toList[k]=s[k]:=rfl;by_cases h10:s[k]=10
    ·have hnx:=hsp.nl hlt' h10;have hb:((s[k].toNat:Int)==10)=true:=(by rw[h10];rfl);clear h10 hget;go_wp2;go_roundw
     case rel=>exact⟨k+1,line+1,acc,by go_num,by go_num,hnx,hown,hbel⟩
     case measure=>simp[intOf];omega
    ·have hb:=aC6 _ h10;rcases Pq s[k]with⟨hbl,hcase⟩|⟨hbl,t1,t2,t3⟩
     ·have hnx:=hsp.blank hlt' hbl;clear h10 hget hbl;rcases hcase with t1|⟨t1,t2⟩|⟨t1,t2,t3⟩
      all_goals
       go_wp2;go_roundw
       case rel=>exact⟨k+1,line,acc,by go_num,rfl,hnx,hown,hbel⟩
       case measure=>simp[intOf];omega
     ·have hts:(s.extract k s.size).size=s.size -k:=(by simp);have av2:dD wr:=dG.below hbel dG.lt;cases hp:ay0 (s.extract k s.size)
      ·have hp':[47,47].isPrefixOf (s.data.toList.drop k)=false:=(by rw[<- BH];exact hp);have hte:(s.extract k s.size).size<=4096:=(by omega);have ht0:0<(s.extract k s.size).size:=(by omega);have hok:=λh4=>hsp.tok hlt' h10 hbl hp' h4;have XR:=λh4=>hsp.err hlt' h10 hbl hp' h4;have Hd:=ah (BH s k);clear h10 hget hbl hp' hts;generalize hr:Tk.first (s.data.toList.drop k)=r at *;have Hr:=ah hr;clear hr;obtain⟨en,kind,text⟩:=r;by_cases he:en=0
       ·subst he;obtain⟨hnx,htl⟩:=hok rfl;simp only[]at hnx htl;clear hok XR;have hle:k+text.length<=s.size:=(by have:=hnx.1;rw[<- Lib.size_eq]at this;exact this);have hacc:acc.length<=4096:=(by have:=hsp.2.2.1;omega);have hth:(⟨text.toArray⟩:ByteArray).size=text.length:=Lib.size_mk _;go_wp2_with (go_at_call 97;refine(wN _ _).mono ?_;rintro e w' ⟨rfl,rfl⟩);refine(Lm _ _ hte ht0 av2).mono ?_;rintro e w1 ⟨rfl,hb1⟩;rw[Hd.o,Hr.o];unfold xA;have hown1:=own_below hown hb1;have hbs:=hbel.size;have bj9:=hb1.size;go_wp2_with (at_builtin;refine wpList_append_own _ rfl _ _ 118 rfl w.heap.size 145 i0 _ 3 32 Tryz.underlying118 hi hz0 hz1 hz2 rfl (by decide) _ _ _ rfl ((hown1.alloc _).alloc _) ⟨w1.heap.size+1,0,none⟩ 1 1 [.int .i64 kind,.string ⟨text.toArray⟩,.int .i64 line] rfl rfl ?c1 ?c2 ?c3 ?c4 ?c5 ?_)
        case c1=>
         intro j u hj
         match j,hj with
         |0,hj=>simp at hj;subst hj;simp[Addr.add]
         |1,hj=>simp at hj;subst hj;simp[Addr.add]
         |2,hj=>simp at hj;subst hj;simp[Addr.add]
        case c2=>intro u hu;simp at hu;rcases hu with rfl|rfl|rfl <;> rfl
        case c3=>unfold maxLen;omega
        case c4=>omega
        case c5=>simp;omega
        intro v' w2 hown2 hgrow2 _;have hcell:=YQ hown1 _ _ _ hgrow2 1;have aB6:=Wm hown1 (hbel.trans (hb1.mono hbs)) (by omega) _ _ hgrow2;have hown3:w2.ownsRow w.heap.size 145 3 v' (acc++[(⟨kind,text,line⟩:Tk.Tok)]).length (Tk.cellsOf (acc++[(⟨kind,text,line⟩:Tk.Tok)])):=(by rw[Tk.NH,Tk.cells_one,List.length_append];exact hown2);clear hown2 hgrow2 hown1 hown hb1 hbel hi hz0 hz1 hz2;simp only[List.getElem?_toArray,List.getElem?_cons_succ,List.getElem?_cons_zero]at hcell;go_wp2;go_roundw
        case rel=>exact⟨k+text.length,line,_,by go_num,rfl,hnx,hown3,aB6⟩
        case measure=>simp[intOf];omega
       ·have hR:=ah (XR he);have he1:((en:Int)==0)=false:=(by rw[beq_eq_false_iff_ne];omega);have he2:((en:Int) != 0)=true:=(by rw[bne_iff_ne];omega);clear hok XR he;go_wp2_with (go_at_call 97;refine(wN _ _).mono ?_;rintro e w' ⟨rfl,rfl⟩);refine(Lm _ _ hte ht0 av2).mono ?_;rintro e w1 ⟨rfl,hb1⟩;rw[Hd.o,Hr.o];unfold xA;have hbs:=hbel.size;go_wp2
        go_ret3
        rw[hR.o];exact⟨_,rfl,World.ownsRow_nil _ _ _ _,(hbel.trans (hb1.mono hbs)).alloc (by have:=hb1.size;omega) _⟩
      ·have hp':[47,47].isPrefixOf (s.data.toList.drop k)=true:=(by rw[<- BH];exact hp);obtain⟨hnx,hc1⟩:=hsp.DY hlt' h10 hbl hp';rw[<- BH]at hnx hc1;have hc1':1<=RZ (s.extract k s.size):=hc1;have hle:k+RZ (s.extract k s.size)<=s.size:=(by have:=hnx.1;rw[<- Lib.size_eq]at this;exact this);have hte:(s.extract k s.size).size<=4096:=(by omega);clear h10 hget hbl hp' hc1 hts;go_wp2_with (first|(go_at_call 97;refine(wN _ _).mono ?_;rintro e w' ⟨rfl,rfl⟩)|(go_at_call 98;refine(Ut _ _ hte).mono ?_;rintro e w' ⟨rfl,rfl⟩));go_roundw
       case rel=>exact⟨k+RZ (s.extract k s.size),line,acc,by go_num,rfl,hnx,hown,hbel⟩
       case measure=>simp[intOf];omega
   ·have hR:=ah (hsp.done (by rw[<- Lib.size_eq];exact hlt));go_wp2
    go_ret3
    rw[hR.o];exact⟨_,rfl,hown,hbel⟩
end Go.Proofs.YtkmllehjemjgpaaGreatDoor
