/- Contracts of the leaf functions of the token layer and of what of package strings it calls. And what hangs on it. -/
import Derived.Test.YtkmllehjemjgpaaGreatDoorGA
import Derived.Deep.Light
set_option linter.unusedSimpArgs false
set_option linter.unusedVariables false
set_option maxHeartbeats 40000000
set_option maxRecDepth 1000000
namespace Go.Proofs.YtkmllehjemjgpaaGreatDoor
open Go.RowKit
theorem ny (c:Int) (w:World):
 Calls Tryz.prog 135 #[.int .u8 c] w λe w'=>e= .returned (.bool (Tk.qU c))∧w=w':=by
 unfold Tk.qU;go_enter Tryz.func135,Tryz.ntmps135;go_wp2
 all_goals go_ret
 all_goals first|(simp[*];done)|(simp[*];omega)
theorem mV (c:Int) (w:World):
 Calls Tryz.prog 137 #[.int .u8 c] w λe w'=>e= .returned (.bool (Tk.qz c))∧w=w':=by
 unfold Tk.qz;go_enter Tryz.func137,Tryz.ntmps137;go_wp2
 all_goals go_ret
 all_goals first|(simp[*];done)|(simp[*];omega)
theorem LZ (s p:ByteArray) (w:World):
 Calls Tryz.prog 97 #[.string s,.string p] w λe w'=>e= .returned (.bool (Lib.hasPrefix s.data.toList p.data.toList))∧w=w':=by
 rw[<- Lib.hasPrefix_of_take,<- Lib.size_eq,<- Lib.size_eq];go_enter Tryz.func97,Tryz.ntmps97;go_wp2
 ·rename_i h;go_ret;refine⟨?_,rfl⟩;show Ending.returned (Value.bool ((s.extract 0 p.size).toList==p.toList))=_;rw[Lib.extract_toList,Lib.toList_data];simp[h]
 ·rename_i h;go_ret;refine⟨?_,rfl⟩;show Ending.returned (Value.bool false)=_;simp[h]
theorem zT (s:ByteArray) (c:Int) (w:World):
 Calls Tryz.prog 150 #[.string s,.int .u8 c] w λe w'=>e= .returned (.int .i64 (Lib.indexByte s.data.toList c.toNat.toUInt8))∧w=w':=by
 go_enter Tryz.func150,Tryz.ntmps150;go_wp2;rw[run_callFunc_extern Tryz.func157 (by kernel_rfl) (by kernel_rfl) (by kernel_rfl) (e:=Extern.BytealgIndexByte.indexByte) (by kernel_rfl),Lib.run_indexByteString];simp only[Result.andThen];rw[Oper.upon_value];go_wp2;go_ret;exact⟨rfl,rfl⟩
theorem yT (s:ByteArray) (c:Int) (w:World):
 Calls Tryz.prog 134 #[.string s,.int .u8 c] w λe w'=>e= .returned (.int .i64 (Lib.indexByte s.data.toList c.toNat.toUInt8))∧w=w':=by
 go_enter Tryz.func134,Tryz.ntmps134;go_wp2_with (go_at_call 150;refine(zT _ _ _).mono ?_;rintro e w' ⟨rfl,rfl⟩);go_ret;exact⟨rfl,rfl⟩
theorem Px (s:ByteArray) (w:World) (_hs:s.size<=4096):
 Calls Tryz.prog 98 #[.string s] w λe w'=>e= .returned (.int .i64 (Tk.DY s.data.toList))∧w=w':=by
 have hle:=Tk.Us s.data.toList;have hsz:=Lib.size_eq s;by_cases h:0<=Lib.indexByte s.data.toList 10
 ·have he:=Tk.aq2 _ h;rw[<- he];clear he hsz;go_enter Tryz.func98,Tryz.ntmps98;go_wp2_with (go_at_call 134;refine(yT _ _ _).mono ?_;rintro e w' ⟨rfl,rfl⟩);go_ret;exact⟨rfl,rfl⟩
 ·have h':Lib.indexByte s.data.toList 10<0:=by omega
  have he:=Tk.aq3 _ h';rw[<- he,<- hsz];clear he hsz h;go_enter Tryz.func98,Tryz.ntmps98;go_wp2_with (go_at_call 134;refine(yT _ _ _).mono ?_;rintro e w' ⟨rfl,rfl⟩);go_ret;exact⟨rfl,rfl⟩
theorem Iu (s:ByteArray) (w:World):
 Calls Tryz.prog 158 #[.string s,.int .u8 48] w λe w'=>e= .returned (.string ⟨(s.data.toList.dropWhile (· ==48)).toArray⟩)∧w=w':=by
 go_enter Tryz.func158,Tryz.ntmps158;go_wp2;go_loop [0] (λv=> ∃t:ByteArray,v= .string t∧Tk.oI t s) (λv=>Lib.strSize v)
 case atStart=>exact⟨s,rfl,Tk.oI.refl s⟩
 case round=>
  obtain⟨t,rfl,ht⟩:=hrel;by_cases h0:0<t.size
  ·by_cases he:t[0]=48
   ·have hb:((t[0].toNat:Int)==48)=true:=(by rw[he];rfl);have hst:=ht.step h0 he;have hz:(t.extract 1 t.size).size<t.size:=(by simp[ByteArray.size_extract];omega);have H:=ah he;clear he;go_wp2;go_round
    case rel=>exact⟨_,rfl,hst⟩
    case measure=>exact hz
   ·have hb:((t[0].toNat:Int)==48)=false:=(by rw[beq_eq_false_iff_ne];intro h;exact he (UInt8.toNat_inj.1 (by rw[show t[0].toNat=48 from by omega];rfl)));have hd:=ht.done (λ_=>he);have H:=ah hd;clear hd he;go_wp2;go_ret;exact⟨congrArg (λx=>Ending.returned (.string x)) H.o,rfl⟩
  ·have hd:=ht.done (λh=>absurd h h0);have H:=ah hd;clear hd;go_wp2;go_ret;exact⟨congrArg (λx=>Ending.returned (.string x)) H.o,rfl⟩
theorem M6 (s:ByteArray) (w:World) (h:s.toList.isEmpty=false):
 Calls Tryz.prog 151 #[.string s,.string ⟨#[48]⟩] w λe w'=>e= .returned (.string ⟨(s.data.toList.dropWhile (· ==48)).toArray⟩)∧w=w':=by
 have h2:s.toList≠[]:=by intro e;rw[e]at h;cases h
 go_enter Tryz.func151,Tryz.ntmps151;go_wp2_with (go_at_call 158;refine(Iu _ _).mono ?_;rintro e w' ⟨rfl,rfl⟩);go_ret;exact⟨rfl,rfl⟩
def xA (r:Nat×Nat×List UInt8):Value:= .tuple #[.agg #[.int .i64 r.2.1,.string ⟨r.2.2.toArray⟩,.int .i64 0],.int .i64 r.1]
theorem ac7 (s:ByteArray) (h:0<s.size):s.data.toList.headD 0=s[0]:=by
 rw[Tk.sN s h];rfl
theorem az3 (s:ByteArray) (h:0<s.size):((Tk.nC s.data.toList).length:Int)=if 2<=(s.size:Int)∧Tk.BZ.contains (s.extract 0 2).toList=true then 2 else if(0:Int)<=Lib.indexByte Tk.Lf s[0]then 1 else 0:=by
 have hl:=Lib.size_eq s;rw[Tk.CK,Lib.extract_toList];simp only[List.drop_zero,Nat.sub_zero];have h1:s.data.toList.take 1=[s[0]]:=by rw[Tk.sN s h];rfl
 rw[h1,Tk.NI,Tk.Cy];by_cases h2:Tk.BZ.contains (s.data.toList.take 2)=true
 ·have h3:(s.data.toList.take 2).length=2:=by
   have: ∀x,Tk.BZ.contains x=true->x.length=2:=by intro x hx;rw[List.contains_iff_mem]at hx;have: ∀y∈Tk.BZ,y.length=2:=(by decide);exact this x hx
   exact this _ h2
  have h4:2<=(s.size:Int):=by rw[List.length_take]at h3;omega
  rw[if_pos h2,if_pos ⟨h4,h2⟩,h3];rfl
 ·rw[if_neg h2];have h6: ¬(2<=(s.size:Int)∧Tk.BZ.contains (s.data.toList.take 2)=true):=λh=>h2 h.2;rw[if_neg h6];by_cases h5:(0:Int)<=Lib.indexByte Tk.Lf s[0]
  ·rw[if_pos h5,if_pos (by simpa using h5)];rfl
  ·rw[if_neg h5,if_neg (by simpa using h5)];rfl
theorem ae2 (s:ByteArray) (h:0<s.size):((Tk.nC s.data.toList).length:Int)=if decide (2<=(s.size:Int))&&(((s.extract 0 2).toList== [124,124])||(((s.extract 0 2).toList== [38,38])||(((s.extract 0 2).toList== [61,61])||(((s.extract 0 2).toList== [33,61])||(((s.extract 0 2).toList== [60,61])||((s.extract 0 2).toList== [62,61]))))))then 2 else if(0:Int)<=Lib.indexByte [60,62,43,45,42,47,37,33,61,40,41,91,93,123,125,44,59] s[0]then 1 else 0:=by
 rw[az3 s h];have e:Tk.BZ.contains (s.extract 0 2).toList=(((s.extract 0 2).toList== [124,124])||(((s.extract 0 2).toList== [38,38])||(((s.extract 0 2).toList== [61,61])||(((s.extract 0 2).toList== [33,61])||(((s.extract 0 2).toList== [60,61])||((s.extract 0 2).toList== [62,61])))))):=by unfold Tk.BZ;simp only[List.contains_cons,List.contains_nil,Bool.or_false]
 rw[<- e];simp only[Bool.and_eq_true,decide_eq_true_eq];rfl
theorem OU (s:ByteArray) (w:World) (h:0<s.size):
 Calls Tryz.prog 139 #[.string s] w λe w'=>e= .returned (.int .i64 (Tk.nC s.data.toList).length)∧w=w':=by
 have H:=ah (ae2 s h);go_enter Tryz.func139,Tryz.ntmps139;go_wp2_with (go_at_call 134;refine(yT _ _ _).mono ?_;rintro e w' ⟨rfl,rfl⟩)
 all_goals go_ret
 all_goals (refine⟨aV ?_,rfl⟩;rw[H.o];clear H;go_light;first|(exfalso;simp_all;done)|(simp only[*,Bool.or_true,Bool.true_or,Bool.or_false,Bool.and_true,Bool.and_false,decide_true,if_true,if_false,Bool.false_eq_true];done)|(rw[if_neg (by simp only[*,Bool.or_false,Bool.and_false,Bool.false_eq_true,not_false_eq_true])];first|(rw[if_pos (by assumption)];done)|(rw[if_neg (by omega)];done))|(rw[if_neg (by simp;omega)];first|(rw[if_pos (by assumption)];done)|(rw[if_neg (by omega)];done)))
theorem NP (s:ByteArray) (j:Nat) (h:j<s.data.toList.length):s.data.toList[j]=s[j]'(by rw[Lib.size_eq];exact h):=rfl
def DW (p:UInt8->Bool) (s:ByteArray) (k:Nat):Prop:= ∀j (h:j<s.size),j<k->p s[j]=true
theorem DW.step {p:UInt8->Bool} {s:ByteArray} {k:Nat} (h:DW p s k) (hk:k<s.size) (hp:p s[k]=true):DW p s (k+1):=by
 intro j hj hjk;by_cases e:j=k
 ·subst e;exact hp
 ·exact h j hj (by omega)
theorem DW.one {p:UInt8->Bool} {s:ByteArray} (h:0<s.size) (hp:p s[0]=true):DW p s 1:=by
 intro j hj h1;obtain rfl:j=0:=by omega
 exact hp
theorem DW.len {p:UInt8->Bool} {s:ByteArray} {k:Nat} (h:DW p s k) (hk:k<=s.size) (hp: ∀h:k<s.size,p s[k]=false):(s.data.toList.takeWhile p).length=k:=by
 refine Tk.E9 p _ k (by rw[<- Lib.size_eq];exact hk) (λj hj hjk=> ?_) (λhj=> ?_)
 ·rw[NP];exact h j _ hjk
 ·rw[NP];exact hp _
theorem Dk {p:UInt8->Bool} {s:ByteArray} {k:Nat} (h:(s.data.toList.takeWhile p).length=k):s.extract 0 k=⟨(s.data.toList.takeWhile p).toArray⟩:=by
 rw[Lib.extract_upto,<- h,Tk.take_takeWhile]
theorem Jl {p:UInt8->Bool} {s:ByteArray} {k:Nat} (h:(s.data.toList.takeWhile p).length=k):(s.extract 0 k).data.toList=s.data.toList.takeWhile p:=by
 rw[Dk h]
theorem Tn (l:List UInt8) (k:Nat) (h:(l.takeWhile Tk.kr).length=k) (h12:12<k):Tk.su l=(2,0,[]):=by
 unfold Tk.su;rw[if_pos (by omega)]
theorem YU (l:List UInt8) (k:Nat) (h:(l.takeWhile Tk.kr).length=k) (h12: ¬12<k) (hk:Tk.sS (l.takeWhile Tk.kr)=true):Tk.su l=(0,3,l.takeWhile Tk.kr):=by
 unfold Tk.su;rw[if_neg (by omega),if_pos hk]
theorem YV (l:List UInt8) (k:Nat) (h:(l.takeWhile Tk.kr).length=k) (h12: ¬12<k) (hk:Tk.sS (l.takeWhile Tk.kr)=false):Tk.su l=(0,1,l.takeWhile Tk.kr):=by
 unfold Tk.su;rw[if_neg (by omega),if_neg (by rw[hk];decide)]
theorem YW (s:ByteArray) (w:World) (hs:s.size<=4096) (h0:0<s.size) (hL:Tk.zC s[0]=true) (dG:dD w):
 Calls Tryz.prog 136 #[.string s] w λe w'=>e= .returned (xA (Tk.su s.data.toList))∧Below w.heap.size w w':=by
 have hI0:=Ov _ hL;have HL:=ah hL;clear hL;go_enter Tryz.func136,Tryz.ntmps136;go_wp2;go_loop [4] (λi=> ∃k:Nat,1<=k∧k<=s.size∧i= .int .i64 k∧DW Tk.kr s k) (λi=>s.size -(intOf i).toNat)
 case atStart=>exact⟨1,Nat.le_refl _,h0,rfl,DW.one h0 hI0⟩
 case round=>
  obtain⟨k,hk1,hk,rfl,hin⟩:=hrel;clear hI0;by_cases hc: ∃h:k<s.size,Tk.kr s[k]=true
  ·obtain⟨hlt,hi⟩:=hc;have hst:=hin.step hlt hi;rcases BD s[k]with⟨_,h1⟩|⟨_,h1,h2⟩|⟨_,h1,h2,h3⟩|⟨h4,_⟩
   case inr.inr.inr=>rw[hi]at h4;cases h4
   all_goals
    clear hi;go_wp2_with (first|(go_at_call 135;refine(ny _ _).mono ?_;rintro e w' ⟨rfl,rfl⟩)|(go_at_call 137;refine(mV _ _).mono ?_;rintro e w' ⟨rfl,rfl⟩));go_round
    case rel=>exact⟨k+1,by omega,by omega,by go_num,hst⟩
    case measure=>simp[intOf];omega
  ·have hlen:(s.data.toList.takeWhile Tk.kr).length=k:=hin.len hk (λh=>by rw[Bool.eq_false_iff];exact λe=>hc ⟨h,e⟩);have ed:s.data.toList.take k=s.data.toList.takeWhile Tk.kr:=by rw[<- hlen,Tk.take_takeWhile]
   have EX:=ah (Dk hlen);have HR:aj ((12<k∧Tk.su s.data.toList=(2,0,[]))∨(¬12<k∧Tk.sS (s.data.toList.take k)=true∧Tk.su s.data.toList=(0,3,s.data.toList.takeWhile Tk.kr))∨
    (¬12<k∧Tk.sS (s.data.toList.take k)=false∧Tk.su s.data.toList=(0,1,s.data.toList.takeWhile Tk.kr))):=by
    apply ah;rw[ed];by_cases h12:12<k
    ·exact .inl ⟨h12,Tn _ k hlen h12⟩
    ·cases hK:Tk.sS (s.data.toList.takeWhile Tk.kr)
     ·exact .inr (.inr ⟨h12,rfl,YV _ k hlen h12 hK⟩)
     ·exact .inr (.inl ⟨h12,rfl,YU _ k hlen h12 hK⟩)
   have HC:aj (k<s.size->∃h:k<s.size,Tk.kr s[k]=false):=ah λh=>⟨h,by rw[Bool.eq_false_iff];exact λe=>hc ⟨h,e⟩⟩;clear hc ed hlen;have go: ∀Z:Prop,((hlt:k<s.size)->Tk.qU (s[k].toNat:Int)=false->Tk.qz (s[k].toNat:Int)=false->((s[k].toNat:Int)==95)=false->Z)->(¬k<s.size->Z)->Z:=by
    intro Z h1 h2;by_cases hlt:k<s.size
    ·obtain⟨_,hi⟩:=HC.o hlt;rcases BD s[k]with⟨h,_⟩|⟨h,_⟩|⟨h,_⟩|⟨_,ha,hb,hcc⟩
     ·rw[hi]at h;cases h
     ·rw[hi]at h;cases h
     ·rw[hi]at h;cases h
     ·exact h1 hlt ha hb hcc
    ·exact h2 hlt
   rcases HR.o with⟨h12,hR⟩|⟨h12,hK,hR⟩|⟨h12,hK,hR⟩
   all_goals have HRR:=ah hR;clear hR HR;refine go _ (λhlt t1 t2 t3=> ?_) (λhlt=> ?_)
   all_goals clear go;go_wp2_with (first|(go_at_call 135;refine(ny _ _).mono ?_;rintro e w' ⟨rfl,rfl⟩)|(go_at_call 137;refine(mV _ _).mono ?_;rintro e w' ⟨rfl,rfl⟩)|(go_at_call 79;refine(yU _ _ (dG.alloc _)).mono ?_;rintro e w' ⟨rfl,rfl⟩))
   ·exact bodyPost_ret (v:= .tuple #[.agg #[.int .i64 0,.string ⟨#[]⟩,.int .i64 0],.int .i64 2]) (by simp[results,Tryz.results136,go_sem]) rfl ⟨by rw[HRR.o];rfl,(Below.refl _ _).alloc (Nat.le_refl _) _⟩
   ·exact bodyPost_ret (v:= .tuple #[.agg #[.int .i64 0,.string ⟨#[]⟩,.int .i64 0],.int .i64 2]) (by simp[results,Tryz.results136,go_sem]) rfl ⟨by rw[HRR.o];rfl,(Below.refl _ _).alloc (Nat.le_refl _) _⟩
   ·exact bodyPost_ret (v:= .tuple #[.agg #[.int .i64 3,.string (s.extract 0 k),.int .i64 0],.int .i64 0]) (by simp[results,Tryz.results136,go_sem]) rfl ⟨by rw[HRR.o,EX.o];rfl,(Below.refl _ _).alloc (Nat.le_refl _) _⟩
   ·exact bodyPost_ret (v:= .tuple #[.agg #[.int .i64 3,.string (s.extract 0 k),.int .i64 0],.int .i64 0]) (by simp[results,Tryz.results136,go_sem]) rfl ⟨by rw[HRR.o,EX.o];rfl,(Below.refl _ _).alloc (Nat.le_refl _) _⟩
   ·exact bodyPost_ret (v:= .tuple #[.agg #[.int .i64 1,.string (s.extract 0 k),.int .i64 0],.int .i64 0]) (by simp[results,Tryz.results136,go_sem]) rfl ⟨by rw[HRR.o,EX.o];rfl,(Below.refl _ _).alloc (Nat.le_refl _) _⟩
   ·exact bodyPost_ret (v:= .tuple #[.agg #[.int .i64 1,.string (s.extract 0 k),.int .i64 0],.int .i64 0]) (by simp[results,Tryz.results136,go_sem]) rfl ⟨by rw[HRR.o,EX.o];rfl,(Below.refl _ _).alloc (Nat.le_refl _) _⟩
end Go.Proofs.YtkmllehjemjgpaaGreatDoor
