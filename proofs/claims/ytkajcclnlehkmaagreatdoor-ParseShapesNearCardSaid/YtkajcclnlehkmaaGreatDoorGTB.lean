/- Contracts of the leaf functions of the token layer and of what of package strings it calls. And what hangs on it. -/
import Derived.Test.YtkajcclnlehkmaaGreatDoorGA
import Derived.Deep.Light
set_option linter.unusedSimpArgs false
set_option linter.unusedVariables false
set_option maxHeartbeats 40000000
set_option maxRecDepth 1000000
namespace Go.Proofs.YtkajcclnlehkmaaGreatDoor
open Go.RowKit
theorem iG (c:Int) (w:World):
 Calls Tryz.prog 57 #[.int .u8 c] w fun e w'=>e= .returned (.bool (Tk.ko c))∧w=w':=by
 unfold Tk.ko;go_enter Tryz.func57,Tryz.ntmps57;go_wp2
 all_goals go_ret
 all_goals first | (simp [*]; done) | (simp [*]; omega)
theorem iC (c:Int) (w:World):
 Calls Tryz.prog 59 #[.int .u8 c] w fun e w'=>e= .returned (.bool (Tk.jL c))∧w=w':=by
 unfold Tk.jL;go_enter Tryz.func59,Tryz.ntmps59;go_wp2
 all_goals go_ret
 all_goals first | (simp [*]; done) | (simp [*]; omega)
theorem Bo (s p:ByteArray) (w:World):
 Calls Tryz.prog 43 #[.string s,.string p] w fun e w'=>e= .returned (.bool (Lib.hasPrefix s.data.toList p.data.toList))∧w=w':=by
 rw [<- Lib.hasPrefix_of_take,<- Lib.size_eq,<- Lib.size_eq];go_enter Tryz.func43,Tryz.ntmps43;go_wp2
 ·rename_i h;go_ret;refine ⟨?_,rfl⟩;show Ending.returned (Value.bool ((s.extract 0 p.size).toList == p.toList))=_;rw [Lib.extract_toList,Lib.toList_data];simp [h]
 ·rename_i h;go_ret;refine ⟨?_,rfl⟩;show Ending.returned (Value.bool false)=_;simp [h]
theorem pK (s:ByteArray) (c:Int) (w:World):
 Calls Tryz.prog 69 #[.string s,.int .u8 c] w fun e w'=>e= .returned (.int .i64 (Lib.indexByte s.data.toList c.toNat.toUInt8))∧w=w':=by
 go_enter Tryz.func69,Tryz.ntmps69;go_wp2;rw [run_callFunc_extern Tryz.func75 (by kernel_rfl) (by kernel_rfl) (by kernel_rfl) (e:=Extern.BytealgIndexByte.indexByte) (by kernel_rfl),Lib.run_indexByteString];simp only [Result.andThen];rw [Oper.upon_value];go_wp2;go_ret;exact ⟨rfl,rfl⟩
theorem oG (s:ByteArray) (c:Int) (w:World):
 Calls Tryz.prog 56 #[.string s,.int .u8 c] w fun e w'=>e= .returned (.int .i64 (Lib.indexByte s.data.toList c.toNat.toUInt8))∧w=w':=by
 go_enter Tryz.func56,Tryz.ntmps56;go_wp2_with (go_at_call 69; refine (pK _ _ _).mono ?_; rintro e w' ⟨rfl,rfl⟩);go_ret;exact ⟨rfl,rfl⟩
theorem Dx (s:ByteArray) (w:World) (UE:s.size<=4096):
 Calls Tryz.prog 44 #[.string s] w fun e w'=>e= .returned (.int .i64 (Tk.uq s.data.toList))∧w=w':=by
 have hle:=Tk.GL s.data.toList;have hsz:=Lib.size_eq s;by_cases h:0<=Lib.indexByte s.data.toList 10
 ·have he:=Tk.NU _ h;rw [<- he];clear he hsz;go_enter Tryz.func44,Tryz.ntmps44;go_wp2_with (go_at_call 56; refine (oG _ _ _).mono ?_; rintro e w' ⟨rfl,rfl⟩);go_ret;exact ⟨rfl,rfl⟩
 ·have h':Lib.indexByte s.data.toList 10 < 0:=by omega
  have he:=Tk.NV _ h';rw [<- he,<- hsz];clear he hsz h;go_enter Tryz.func44,Tryz.ntmps44;go_wp2_with (go_at_call 56; refine (oG _ _ _).mono ?_; rintro e w' ⟨rfl,rfl⟩);go_ret;exact ⟨rfl,rfl⟩
theorem xY (s:ByteArray) (w:World):
 Calls Tryz.prog 76 #[.string s,.int .u8 48] w fun e w'=>e= .returned (.string ⟨(s.data.toList.dropWhile (· == 48)).toArray⟩)∧w=w':=by
 go_enter Tryz.func76,Tryz.ntmps76;go_wp2;go_loop [0] (fun v=> ∃t:ByteArray,v= .string t∧Tk.je t s) (fun v=>Lib.strSize v)
 case atStart=>exact ⟨s,rfl,Tk.je.refl s⟩
 case round=>
  obtain ⟨t,rfl,ht⟩:=hrel;by_cases h0:0 < t.size
  ·by_cases he:t[0]=48
   ·have hb:((t[0].toNat:Int) == 48)=true:=(by rw [he]; rfl);have hst:=ht.step h0 he;have hz:(t.extract 1 t.size).size < t.size:=(by simp [ByteArray.size_extract]; omega);have H:=ah he;clear he;go_wp2;go_round
    case rel=>exact ⟨_,rfl,hst⟩
    case measure=>exact hz
   ·have hb:((t[0].toNat:Int) == 48)=false:=(by rw [beq_eq_false_iff_ne];intro h;exact he (UInt8.toNat_inj.1 (by rw [show t[0].toNat=48 from by omega]; rfl)));have hd:=ht.done (fun _=>he);have H:=ah hd;clear hd he;go_wp2;go_ret;exact ⟨congrArg (fun x=>Ending.returned (.string x)) H.o,rfl⟩
  ·have hd:=ht.done (fun h=>absurd h h0);have H:=ah hd;clear hd;go_wp2;go_ret;exact ⟨congrArg (fun x=>Ending.returned (.string x)) H.o,rfl⟩
theorem Bp (s:ByteArray) (w:World) (h:s.toList.isEmpty=false):
 Calls Tryz.prog 70 #[.string s,.string ⟨#[48]⟩] w fun e w'=>e= .returned (.string ⟨(s.data.toList.dropWhile (· == 48)).toArray⟩)∧w=w':=by
 have h2:s.toList≠[]:=by intro e; rw [e] at h; cases h
 go_enter Tryz.func70,Tryz.ntmps70;go_wp2_with (go_at_call 76; refine (xY _ _).mono ?_; rintro e w' ⟨rfl,rfl⟩);go_ret;exact ⟨rfl,rfl⟩
def nu (r:Nat × Nat × List UInt8):Value:= .tuple #[.agg #[.int .i64 r.2.1,.string ⟨r.2.2.toArray⟩,.int .i64 0],.int .i64 r.1]
theorem LX (s:ByteArray) (h:0 < s.size):s.data.toList.headD 0=s[0]:=by
 rw [Tk.kW s h]; rfl
theorem PE (s:ByteArray) (h:0 < s.size):((Tk.gM s.data.toList).length:Int)=if 2<=(s.size:Int)∧Tk.rV.contains (s.extract 0 2).toList=true then 2 else if (0:Int)<=Lib.indexByte Tk.Ar s[0] then 1 else 0:=by
 have hl:=Lib.size_eq s;rw [Tk.sQ,Lib.extract_toList];simp only [List.drop_zero,Nat.sub_zero];have h1:s.data.toList.take 1=[s[0]]:=by rw [Tk.kW s h]; rfl
 rw [h1,Tk.Cm,Tk.sI];by_cases h2:Tk.rV.contains (s.data.toList.take 2)=true
 ·have h3:(s.data.toList.take 2).length=2:=by
   have: ∀x,Tk.rV.contains x=true->x.length=2:=by intro x hx;rw [List.contains_iff_mem] at hx;have: ∀y ∈ Tk.rV,y.length=2:=(by decide);exact this x hx
   exact this _ h2
  have h4:2<=(s.size:Int):=by rw [List.length_take] at h3; omega
  rw [if_pos h2,if_pos ⟨h4,h2⟩,h3];rfl
 ·rw [if_neg h2];have h6: ¬ (2<=(s.size:Int)∧Tk.rV.contains (s.data.toList.take 2)=true):=fun h=>h2 h.2;rw [if_neg h6];by_cases h5:(0:Int)<=Lib.indexByte Tk.Ar s[0]
  ·rw [if_pos h5,if_pos (by simpa using h5)]; rfl
  ·rw [if_neg h5,if_neg (by simpa using h5)]; rfl
theorem Ml (s:ByteArray) (h:0 < s.size):((Tk.gM s.data.toList).length:Int)=if decide (2<=(s.size:Int)) && (((s.extract 0 2).toList == [124,124]) || (((s.extract 0 2).toList == [38,38]) || (((s.extract 0 2).toList == [61,61]) || (((s.extract 0 2).toList == [33,61]) || (((s.extract 0 2).toList == [60,61]) || ((s.extract 0 2).toList == [62,61])))))) then 2 else if (0:Int)<=Lib.indexByte [60,62,43,45,42,47,37,33,61,40,41,91,93,123,125,44,59] s[0] then 1 else 0:=by
 rw [PE s h];have e:Tk.rV.contains (s.extract 0 2).toList=(((s.extract 0 2).toList == [124,124]) || (((s.extract 0 2).toList == [38,38]) || (((s.extract 0 2).toList == [61,61]) || (((s.extract 0 2).toList == [33,61]) || (((s.extract 0 2).toList == [60,61]) || ((s.extract 0 2).toList == [62,61])))))):=by unfold Tk.rV;simp only [List.contains_cons,List.contains_nil,Bool.or_false]
 rw [<- e];simp only [Bool.and_eq_true,decide_eq_true_eq];rfl
theorem Dk (s:ByteArray) (w:World) (h:0 < s.size):
 Calls Tryz.prog 61 #[.string s] w fun e w'=>e= .returned (.int .i64 (Tk.gM s.data.toList).length)∧w=w':=by
 have H:=ah (Ml s h);go_enter Tryz.func61,Tryz.ntmps61;go_wp2_with (go_at_call 56; refine (oG _ _ _).mono ?_; rintro e w' ⟨rfl,rfl⟩)
 all_goals go_ret
 all_goals (refine ⟨zP ?_,rfl⟩; rw [H.o]; clear H; go_light; first | (exfalso; simp_all; done) | (simp only [*,Bool.or_true,Bool.true_or,Bool.or_false,Bool.and_true,Bool.and_false,decide_true,if_true,if_false,Bool.false_eq_true]; done) | (rw [if_neg (by simp only [*,Bool.or_false,Bool.and_false,Bool.false_eq_true,not_false_eq_true])]; first | (rw [if_pos (by assumption)]; done) | (rw [if_neg (by omega)]; done)) | (rw [if_neg (by simp; omega)]; first | (rw [if_pos (by assumption)]; done) | (rw [if_neg (by omega)]; done)))
theorem Co (s:ByteArray) (j:Nat) (h:j < s.data.toList.length):s.data.toList[j]=s[j]'(by rw [Lib.size_eq]; exact h):=rfl
def uh (p:UInt8->Bool) (s:ByteArray) (k:Nat):Prop:= ∀j (h:j < s.size),j < k->p s[j]=true
theorem uh.step {p:UInt8->Bool} {s:ByteArray} {k:Nat} (h:uh p s k) (hk:k < s.size) (hp:p s[k]=true):uh p s (k + 1):=by
 intro j hj hjk;by_cases e:j=k
 ·subst e; exact hp
 ·exact h j hj (by omega)
theorem uh.one {p:UInt8->Bool} {s:ByteArray} (h:0 < s.size) (hp:p s[0]=true):uh p s 1:=by
 intro j hj h1;obtain rfl:j=0:=by omega
 exact hp
theorem uh.len {p:UInt8->Bool} {s:ByteArray} {k:Nat} (h:uh p s k) (hk:k<=s.size) (hp: ∀h:k < s.size,p s[k]=false):(s.data.toList.takeWhile p).length=k:=by
 refine Tk.uz p _ k (by rw [<- Lib.size_eq]; exact hk) (fun j hj hjk=> ?_) (fun hj=> ?_)
 ·rw [Co]; exact h j _ hjk
 ·rw [Co]; exact hp _
theorem tu {p:UInt8->Bool} {s:ByteArray} {k:Nat} (h:(s.data.toList.takeWhile p).length=k):s.extract 0 k=⟨(s.data.toList.takeWhile p).toArray⟩:=by
 rw [Lib.extract_upto,<- h,Tk.take_takeWhile]
theorem yN {p:UInt8->Bool} {s:ByteArray} {k:Nat} (h:(s.data.toList.takeWhile p).length=k):(s.extract 0 k).data.toList=s.data.toList.takeWhile p:=by
 rw [tu h]
theorem FY (l:List UInt8) (k:Nat) (h:(l.takeWhile Tk.eU).length=k) (h12:12 < k):Tk.jF l=(2,0,[]):=by
 unfold Tk.jF; rw [if_pos (by omega)]
theorem Ki (l:List UInt8) (k:Nat) (h:(l.takeWhile Tk.eU).length=k) (h12: ¬ 12 < k) (hk:Tk.kg (l.takeWhile Tk.eU)=true):Tk.jF l=(0,3,l.takeWhile Tk.eU):=by
 unfold Tk.jF; rw [if_neg (by omega),if_pos hk]
theorem Kj (l:List UInt8) (k:Nat) (h:(l.takeWhile Tk.eU).length=k) (h12: ¬ 12 < k) (hk:Tk.kg (l.takeWhile Tk.eU)=false):Tk.jF l=(0,1,l.takeWhile Tk.eU):=by
 unfold Tk.jF; rw [if_neg (by omega),if_neg (by rw [hk]; decide)]
theorem Kk (s:ByteArray) (w:World) (hs:s.size<=4096) (h0:0 < s.size) (hL:Tk.oo s[0]=true) (gK:dx w):
 Calls Tryz.prog 58 #[.string s] w fun e w'=>e= .returned (nu (Tk.jF s.data.toList))∧Below w.heap.size w w':=by
 have hI0:=CO _ hL;have HL:=ah hL;clear hL;go_enter Tryz.func58,Tryz.ntmps58;go_wp2;go_loop [4] (fun i=> ∃k:Nat,1<=k∧k<=s.size∧i= .int .i64 k∧uh Tk.eU s k) (fun i=>s.size - (intOf i).toNat)
 case atStart=>exact ⟨1,Nat.le_refl _,h0,rfl,uh.one h0 hI0⟩
 case round=>
  obtain ⟨k,hk1,hk,rfl,hin⟩:=hrel;clear hI0;by_cases hc: ∃h:k < s.size,Tk.eU s[k]=true
  ·obtain ⟨hlt,hi⟩:=hc;have hst:=hin.step hlt hi;rcases qZ s[k] with ⟨_,h1⟩ | ⟨_,h1,h2⟩ | ⟨_,h1,h2,h3⟩ | ⟨h4,_⟩
   case inr.inr.inr=>rw [hi] at h4; cases h4
   all_goals
    clear hi;go_wp2_with (first | (go_at_call 57; refine (iG _ _).mono ?_; rintro e w' ⟨rfl,rfl⟩) | (go_at_call 59; refine (iC _ _).mono ?_; rintro e w' ⟨rfl,rfl⟩));go_round
    case rel=>exact ⟨k + 1,by omega,by omega,by go_num,hst⟩
    case measure=>simp [intOf]; omega
  ·have hlen:(s.data.toList.takeWhile Tk.eU).length=k:=hin.len hk (fun h=>by rw [Bool.eq_false_iff]; exact fun e=>hc ⟨h,e⟩);have ed:s.data.toList.take k=s.data.toList.takeWhile Tk.eU:=by rw [<- hlen,Tk.take_takeWhile]
   have EX:=ah (tu hlen);have HR:aj ((12 < k∧Tk.jF s.data.toList=(2,0,[]))∨(¬ 12 < k∧Tk.kg (s.data.toList.take k)=true∧Tk.jF s.data.toList=(0,3,s.data.toList.takeWhile Tk.eU))∨
    (¬ 12 < k∧Tk.kg (s.data.toList.take k)=false∧Tk.jF s.data.toList=(0,1,s.data.toList.takeWhile Tk.eU))):=by
    apply ah;rw [ed];by_cases h12:12 < k
    ·exact .inl ⟨h12,FY _ k hlen h12⟩
    ·cases hK:Tk.kg (s.data.toList.takeWhile Tk.eU)
     ·exact .inr (.inr ⟨h12,rfl,Kj _ k hlen h12 hK⟩)
     ·exact .inr (.inl ⟨h12,rfl,Ki _ k hlen h12 hK⟩)
   have HC:aj (k < s.size-> ∃h:k < s.size,Tk.eU s[k]=false):=ah fun h=>⟨h,by rw [Bool.eq_false_iff]; exact fun e=>hc ⟨h,e⟩⟩;clear hc ed hlen;have go: ∀Z:Prop,((hlt:k < s.size)->Tk.ko (s[k].toNat:Int)=false->Tk.jL (s[k].toNat:Int)=false->((s[k].toNat:Int) == 95)=false->Z)->(¬ k < s.size->Z)->Z:=by
    intro Z h1 h2;by_cases hlt:k < s.size
    ·obtain ⟨_,hi⟩:=HC.o hlt;rcases qZ s[k] with ⟨h,_⟩ | ⟨h,_⟩ | ⟨h,_⟩ | ⟨_,ha,hb,hcc⟩
     ·rw [hi] at h; cases h
     ·rw [hi] at h; cases h
     ·rw [hi] at h; cases h
     ·exact h1 hlt ha hb hcc
    ·exact h2 hlt
   rcases HR.o with ⟨h12,hR⟩ | ⟨h12,hK,hR⟩ | ⟨h12,hK,hR⟩
   all_goals have HRR:=ah hR;clear hR HR;refine go _ (fun hlt t1 t2 t3=> ?_) (fun hlt=> ?_)
   all_goals clear go;go_wp2_with (first | (go_at_call 57; refine (iG _ _).mono ?_; rintro e w' ⟨rfl,rfl⟩) | (go_at_call 59; refine (iC _ _).mono ?_; rintro e w' ⟨rfl,rfl⟩) | (go_at_call 24; refine (oH _ _ (gK.alloc _)).mono ?_; rintro e w' ⟨rfl,rfl⟩))
   ·exact bodyPost_ret (v:= .tuple #[.agg #[.int .i64 0,.string ⟨#[]⟩,.int .i64 0],.int .i64 2]) (by simp [results,Tryz.results58,go_sem]) rfl ⟨by rw [HRR.o]; rfl,(Below.refl _ _).alloc (Nat.le_refl _) _⟩
   ·exact bodyPost_ret (v:= .tuple #[.agg #[.int .i64 0,.string ⟨#[]⟩,.int .i64 0],.int .i64 2]) (by simp [results,Tryz.results58,go_sem]) rfl ⟨by rw [HRR.o]; rfl,(Below.refl _ _).alloc (Nat.le_refl _) _⟩
   ·exact bodyPost_ret (v:= .tuple #[.agg #[.int .i64 3,.string (s.extract 0 k),.int .i64 0],.int .i64 0]) (by simp [results,Tryz.results58,go_sem]) rfl ⟨by rw [HRR.o,EX.o]; rfl,(Below.refl _ _).alloc (Nat.le_refl _) _⟩
   ·exact bodyPost_ret (v:= .tuple #[.agg #[.int .i64 3,.string (s.extract 0 k),.int .i64 0],.int .i64 0]) (by simp [results,Tryz.results58,go_sem]) rfl ⟨by rw [HRR.o,EX.o]; rfl,(Below.refl _ _).alloc (Nat.le_refl _) _⟩
   ·exact bodyPost_ret (v:= .tuple #[.agg #[.int .i64 1,.string (s.extract 0 k),.int .i64 0],.int .i64 0]) (by simp [results,Tryz.results58,go_sem]) rfl ⟨by rw [HRR.o,EX.o]; rfl,(Below.refl _ _).alloc (Nat.le_refl _) _⟩
   ·exact bodyPost_ret (v:= .tuple #[.agg #[.int .i64 1,.string (s.extract 0 k),.int .i64 0],.int .i64 0]) (by simp [results,Tryz.results58,go_sem]) rfl ⟨by rw [HRR.o,EX.o]; rfl,(Below.refl _ _).alloc (Nat.le_refl _) _⟩
end Go.Proofs.YtkajcclnlehkmaaGreatDoor
