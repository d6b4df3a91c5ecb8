/-
  Contracts of the leaf functions of the token layer and of what of package strings it calls.
  The leaves and the keywords together.
  Contracts of token.comment, strings.TrimLeft at a zero, token.sign, token.word, token.number, token.first.
-/
import Derived.Test.YtdajkddgnfgijaaGreatDoorGA
import Derived.Deep.Light
section
namespace Go.Proofs.YtdajkddgnfgijaaGreatDoor
open Go.RowKit
theorem jO (c:Int) (w:World):
 Calls Tryz.prog 93 #[.int .u8 c] w fun e w'=>e= .returned (.bool (Tk.qH c))∧w=w':=by
 unfold Tk.qH
 go_enter Tryz.func93,Tryz.ntmps93
 go_wp2
 all_goals go_ret
 all_goals first | (simp [*]; done) | (simp [*]; omega)
theorem jH (c:Int) (w:World):
 Calls Tryz.prog 95 #[.int .u8 c] w fun e w'=>e= .returned (.bool (Tk.oF c))∧w=w':=by
 unfold Tk.oF
 go_enter Tryz.func95,Tryz.ntmps95
 go_wp2
 all_goals go_ret
 all_goals first | (simp [*]; done) | (simp [*]; omega)
theorem Gi (s p:ByteArray) (w:World):
 Calls Tryz.prog 58 #[.string s,.string p] w fun e w'=>e= .returned (.bool (Lib.hasPrefix s.data.toList p.data.toList))∧w=w':=by
 rw [← Lib.hasPrefix_of_take,← Lib.size_eq,← Lib.size_eq]
 go_enter Tryz.func58,Tryz.ntmps58
 go_wp2
 ·rename_i h
  go_ret
  refine ⟨?_,rfl⟩
  show Ending.returned (Value.bool ((s.extract 0 p.size).toList == p.toList))=_
  rw [Lib.extract_toList,Lib.toList_data]
  simp [h]
 ·rename_i h
  go_ret
  refine ⟨?_,rfl⟩
  show Ending.returned (Value.bool false)=_
  simp [h]
set_option maxRecDepth 100000 in
theorem vC (s:ByteArray) (c:Int) (w:World):
 Calls Tryz.prog 145 #[.string s,.int .u8 c] w fun e w'=>e= .returned (.int .i64 (Lib.indexByte s.data.toList c.toNat.toUInt8))∧w=w':=by
 go_enter Tryz.func145,Tryz.ntmps145
 go_wp2
 rw [run_callFunc_extern Tryz.func165 (by kernel_rfl) (by kernel_rfl) (by kernel_rfl) (e:=Extern.BytealgIndexByte.indexByte) (by kernel_rfl),Lib.run_indexByteString]
 simp only [Result.andThen]
 rw [Oper.upon_value]
 go_wp2
 go_ret
 exact ⟨rfl,rfl⟩
theorem uN (s:ByteArray) (c:Int) (w:World):
 Calls Tryz.prog 92 #[.string s,.int .u8 c] w fun e w'=>e= .returned (.int .i64 (Lib.indexByte s.data.toList c.toNat.toUInt8))∧w=w':=by
 go_enter Tryz.func92,Tryz.ntmps92
 go_wp2_with (go_at_call 145; refine (vC _ _ _).mono ?_; rintro e w' ⟨rfl,rfl⟩)
 go_ret
 exact ⟨rfl,rfl⟩
end Go.Proofs.YtdajkddgnfgijaaGreatDoor
end
section
namespace Go.Proofs.YtdajkddgnfgijaaGreatDoor
open Go.RowKit
theorem Jm (s:ByteArray) (w:World) (_hs:s.size≤4096):
 Calls Tryz.prog 59 #[.string s] w fun e w'=>e= .returned (.int .i64 (Tk.A8 s.data.toList))∧w=w':=by
 have hle:=Tk.Ot s.data.toList
 have hsz:=Lib.size_eq s
 by_cases h:0≤Lib.indexByte s.data.toList 10
 ·have he:=Tk.Uv _ h
  rw [← he]
  clear he hsz
  go_enter Tryz.func59,Tryz.ntmps59
  go_wp2_with (go_at_call 92; refine (uN _ _ _).mono ?_; rintro e w' ⟨rfl,rfl⟩)
  go_ret
  exact ⟨rfl,rfl⟩
 ·have h':Lib.indexByte s.data.toList 10 < 0:=by omega
  have he:=Tk.Ul _ h'
  rw [← he,← hsz]
  clear he hsz h
  go_enter Tryz.func59,Tryz.ntmps59
  go_wp2_with (go_at_call 92; refine (uN _ _ _).mono ?_; rintro e w' ⟨rfl,rfl⟩)
  go_ret
  exact ⟨rfl,rfl⟩
set_option maxHeartbeats 400000 in
theorem D7 (s:ByteArray) (w:World):
 Calls Tryz.prog 166 #[.string s,.int .u8 48] w fun e w'=>e= .returned (.string ⟨(s.data.toList.dropWhile (· == 48)).toArray⟩)∧w=w':=by
 go_enter Tryz.func166,Tryz.ntmps166
 go_wp2
 go_loop [0] (fun v=> ∃t:ByteArray,v= .string t∧Tk.kP t s) (fun v=>Lib.strSize v)
 case atStart=>exact ⟨s,rfl,Tk.kP.refl s⟩
 case round=>
  obtain ⟨t,rfl,ht⟩:=hrel
  by_cases h0:0 < t.size
  ·by_cases he:t[0]=48
   ·have hb:((t[0].toNat:Int) == 48)=true:=by rw [he]; rfl
    have hst:=ht.step h0 he
    have hz:(t.extract 1 t.size).size < t.size:=by simp [ByteArray.size_extract]; omega
    have H:=Lib.hid he
    clear he
    go_wp2
    go_round
    case rel=>exact ⟨_,rfl,hst⟩
    case measure=>exact hz
   ·have hb:((t[0].toNat:Int) == 48)=false:=by
     rw [beq_eq_false_iff_ne]
     intro h
     exact he (UInt8.toNat_inj.1 (by rw [show t[0].toNat=48 from by omega]; rfl))
    have hd:=ht.done (fun _=>he)
    have H:=Lib.hid hd
    clear hd he
    go_wp2
    go_ret
    exact ⟨congrArg (fun x=>Ending.returned (.string x)) H.out,rfl⟩
  ·have hd:=ht.done (fun h=>absurd h h0)
   have H:=Lib.hid hd
   clear hd
   go_wp2
   go_ret
   exact ⟨congrArg (fun x=>Ending.returned (.string x)) H.out,rfl⟩
set_option maxRecDepth 100000 in
theorem Gm (s:ByteArray) (w:World) (h:s.toList.isEmpty=false):
 Calls Tryz.prog 146 #[.string s,.string ⟨#[48]⟩] w fun e w'=>e= .returned (.string ⟨(s.data.toList.dropWhile (· == 48)).toArray⟩)∧w=w':=by
 have h2:s.toList≠[]:=by intro e; rw [e] at h; cases h
 go_enter Tryz.func146,Tryz.ntmps146
 go_wp2_with (go_at_call 166; refine (D7 _ _).mono ?_; rintro e w' ⟨rfl,rfl⟩)
 go_ret
 exact ⟨rfl,rfl⟩
def rD (r:Nat × Nat × List UInt8):Value:= .tuple #[.agg #[.int .i64 r.2.1,.string ⟨r.2.2.toArray⟩,.int .i64 0],.int .i64 r.1]
theorem SA (s:ByteArray) (h:0 < s.size):s.data.toList.headD 0=s[0]:=by
 rw [Tk.qV s h]; rfl
theorem UZ (s:ByteArray) (h:0 < s.size):((Tk.jh s.data.toList).length:Int)=if 2≤(s.size:Int)∧Tk.yc.contains (s.extract 0 2).toList=true then 2 else if (0:Int)≤Lib.indexByte Tk.Gf s[0] then 1 else 0:=by
 have hl:=Lib.size_eq s
 rw [Tk.yM,Lib.extract_toList]
 simp only [List.drop_zero,Nat.sub_zero]
 have h1:s.data.toList.take 1=[s[0]]:=by rw [Tk.qV s h]; rfl
 rw [h1,Tk.H8,Tk.yS]
 by_cases h2:Tk.yc.contains (s.data.toList.take 2)=true
 ·have h3:(s.data.toList.take 2).length=2:=by
   have: ∀x,Tk.yc.contains x=true→x.length=2:=by
    intro x hx
    rw [List.contains_iff_mem] at hx
    have: ∀y ∈ Tk.yc,y.length=2:=by decide
    exact this x hx
   exact this _ h2
  have h4:2≤(s.size:Int):=by rw [List.length_take] at h3; omega
  rw [if_pos h2,if_pos ⟨h4,h2⟩,h3]
  rfl
 ·rw [if_neg h2]
  have h6: ¬ (2≤(s.size:Int)∧Tk.yc.contains (s.data.toList.take 2)=true):=fun h=>h2 h.2
  rw [if_neg h6]
  by_cases h5:(0:Int)≤Lib.indexByte Tk.Gf s[0]
  ·rw [if_pos h5,if_pos (by simpa using h5)]; rfl
  ·rw [if_neg h5,if_neg (by simpa using h5)]; rfl
theorem TA (s:ByteArray) (h:0 < s.size):((Tk.jh s.data.toList).length:Int)=if decide (2≤(s.size:Int)) && (((s.extract 0 2).toList == [124,124]) || (((s.extract 0 2).toList == [38,38]) || (((s.extract 0 2).toList == [61,61]) || (((s.extract 0 2).toList == [33,61]) || (((s.extract 0 2).toList == [60,61]) || ((s.extract 0 2).toList == [62,61])))))) then 2 else if (0:Int)≤Lib.indexByte [60,62,43,45,42,47,37,33,61,40,41,91,93,123,125,44,59] s[0] then 1 else 0:=by
 rw [UZ s h]
 have e:Tk.yc.contains (s.extract 0 2).toList=(((s.extract 0 2).toList == [124,124]) || (((s.extract 0 2).toList == [38,38]) || (((s.extract 0 2).toList == [61,61]) || (((s.extract 0 2).toList == [33,61]) || (((s.extract 0 2).toList == [60,61]) || ((s.extract 0 2).toList == [62,61])))))):=by
  unfold Tk.yc
  simp only [List.contains_cons,List.contains_nil,Bool.or_false]
 rw [← e]
 simp only [Bool.and_eq_true,decide_eq_true_eq]
 rfl
theorem J7 (s:ByteArray) (w:World) (h:0 < s.size):
 Calls Tryz.prog 97 #[.string s] w fun e w'=>e= .returned (.int .i64 (Tk.jh s.data.toList).length)∧w=w':=by
 have H:=Lib.hid (TA s h)
 go_enter Tryz.func97,Tryz.ntmps97
 go_wp2_with (go_at_call 92; refine (uN _ _ _).mono ?_; rintro e w' ⟨rfl,rfl⟩)
 all_goals go_ret
 all_goals (refine ⟨bG ?_,rfl⟩; rw [H.out]; clear H; go_light; first | (exfalso; simp_all; done) | (simp only [*,Bool.or_true,Bool.true_or,Bool.or_false,Bool.and_true,Bool.and_false,decide_true,if_true,if_false,Bool.false_eq_true]; done) | (rw [if_neg (by simp only [*,Bool.or_false,Bool.and_false,Bool.false_eq_true,not_false_eq_true])]; first | (rw [if_pos (by assumption)]; done) | (rw [if_neg (by omega)]; done)) | (rw [if_neg (by simp; omega)]; first | (rw [if_pos (by assumption)]; done) | (rw [if_neg (by omega)]; done)))
theorem Ic (s:ByteArray) (j:Nat) (h:j < s.data.toList.length):s.data.toList[j]=s[j]'(by rw [Lib.size_eq]; exact h):=rfl
def zY (p:UInt8→Bool) (s:ByteArray) (k:Nat):Prop:= ∀j (h:j < s.size),j < k→p s[j]=true
theorem zY.step {p:UInt8→Bool} {s:ByteArray} {k:Nat} (h:zY p s k) (hk:k < s.size) (hp:p s[k]=true):zY p s (k + 1):=by
 intro j hj hjk
 by_cases e:j=k
 ·subst e; exact hp
 ·exact h j hj (by omega)
theorem zY.one {p:UInt8→Bool} {s:ByteArray} (h:0 < s.size) (hp:p s[0]=true):zY p s 1:=by
 intro j hj h1
 obtain rfl:j=0:=by omega
 exact hp
theorem zY.len {p:UInt8→Bool} {s:ByteArray} {k:Nat} (h:zY p s k) (hk:k≤s.size) (hp: ∀h:k < s.size,p s[k]=false):(s.data.toList.takeWhile p).length=k:=by
 refine Tk.Aa p _ k (by rw [← Lib.size_eq]; exact hk) (fun j hj hjk=> ?_) (fun hj=> ?_)
 ·rw [Ic]; exact h j _ hjk
 ·rw [Ic]; exact hp _
theorem zw {p:UInt8→Bool} {s:ByteArray} {k:Nat} (h:(s.data.toList.takeWhile p).length=k):s.extract 0 k=⟨(s.data.toList.takeWhile p).toArray⟩:=by
 rw [Lib.extract_upto,← h,Tk.take_takeWhile]
theorem En {p:UInt8→Bool} {s:ByteArray} {k:Nat} (h:(s.data.toList.takeWhile p).length=k):(s.extract 0 k).data.toList=s.data.toList.takeWhile p:=by
 rw [zw h]
theorem Lc (l:List UInt8) (k:Nat) (h:(l.takeWhile Tk.iJ).length=k) (h12:12 < k):Tk.mI l=(2,0,[]):=by
 unfold Tk.mI; rw [if_pos (by omega)]
theorem Qm (l:List UInt8) (k:Nat) (h:(l.takeWhile Tk.iJ).length=k) (h12: ¬ 12 < k) (hk:Tk.pR (l.takeWhile Tk.iJ)=true):Tk.mI l=(0,3,l.takeWhile Tk.iJ):=by
 unfold Tk.mI; rw [if_neg (by omega),if_pos hk]
theorem Pk (l:List UInt8) (k:Nat) (h:(l.takeWhile Tk.iJ).length=k) (h12: ¬ 12 < k) (hk:Tk.pR (l.takeWhile Tk.iJ)=false):Tk.mI l=(0,1,l.takeWhile Tk.iJ):=by
 unfold Tk.mI; rw [if_neg (by omega),if_neg (by rw [hk]; decide)]
set_option maxHeartbeats 2000000 in
theorem Qu (s:ByteArray) (w:World) (hs:s.size≤4096) (h0:0 < s.size) (hL:Tk.wT s[0]=true) (dI:dw w):
 Calls Tryz.prog 94 #[.string s] w fun e w'=>e= .returned (rD (Tk.mI s.data.toList))∧Below w.heap.size w w':=by
 have hI0:=IY _ hL
 have HL:=Lib.hid hL
 clear hL
 go_enter Tryz.func94,Tryz.ntmps94
 go_wp2
 go_loop [4] (fun i=> ∃k:Nat,1≤k∧k≤s.size∧i= .int .i64 k∧zY Tk.iJ s k) (fun i=>s.size - (intOf i).toNat)
 case atStart=>exact ⟨1,Nat.le_refl _,h0,rfl,zY.one h0 hI0⟩
 case round=>
  obtain ⟨k,hk1,hk,rfl,hin⟩:=hrel
  clear hI0
  by_cases hc: ∃h:k < s.size,Tk.iJ s[k]=true
  ·obtain ⟨hlt,hi⟩:=hc
   have hst:=hin.step hlt hi
   rcases wQ s[k] with ⟨_,h1⟩ | ⟨_,h1,h2⟩ | ⟨_,h1,h2,h3⟩ | ⟨h4,_⟩
   case inr.inr.inr=>rw [hi] at h4; cases h4
   all_goals
    clear hi
    go_wp2_with (first | (go_at_call 93; refine (jO _ _).mono ?_; rintro e w' ⟨rfl,rfl⟩) | (go_at_call 95; refine (jH _ _).mono ?_; rintro e w' ⟨rfl,rfl⟩))
    go_round
    case rel=>exact ⟨k + 1,by omega,by omega,by go_num,hst⟩
    case measure=>simp [intOf]; omega
  ·have hlen:(s.data.toList.takeWhile Tk.iJ).length=k:=hin.len hk (fun h=>by
    rw [Bool.eq_false_iff]; exact fun e=>hc ⟨h,e⟩)
   have ed:s.data.toList.take k=s.data.toList.takeWhile Tk.iJ:=by rw [← hlen,Tk.take_takeWhile]
   have EX:=Lib.hid (zw hlen)
   have HR:Hid ((12 < k∧Tk.mI s.data.toList=(2,0,[]))∨(¬ 12 < k∧Tk.pR (s.data.toList.take k)=true∧Tk.mI s.data.toList=(0,3,s.data.toList.takeWhile Tk.iJ))∨
    (¬ 12 < k∧Tk.pR (s.data.toList.take k)=false∧Tk.mI s.data.toList=(0,1,s.data.toList.takeWhile Tk.iJ))):=by
    apply Lib.hid
    rw [ed]
    by_cases h12:12 < k
    ·exact .inl ⟨h12,Lc _ k hlen h12⟩
    ·cases hK:Tk.pR (s.data.toList.takeWhile Tk.iJ)
     ·exact .inr (.inr ⟨h12,rfl,Pk _ k hlen h12 hK⟩)
     ·exact .inr (.inl ⟨h12,rfl,Qm _ k hlen h12 hK⟩)
   have HC:Hid (k < s.size→ ∃h:k < s.size,Tk.iJ s[k]=false):=Lib.hid fun h=>⟨h,by rw [Bool.eq_false_iff]; exact fun e=>hc ⟨h,e⟩⟩
   clear hc ed hlen
   have go: ∀Z:Prop,((hlt:k < s.size)→Tk.qH (s[k].toNat:Int)=false→Tk.oF (s[k].toNat:Int)=false→((s[k].toNat:Int) == 95)=false→Z)→(¬ k < s.size→Z)→Z:=by
    intro Z h1 h2
    by_cases hlt:k < s.size
    ·obtain ⟨_,hi⟩:=HC.out hlt
     rcases wQ s[k] with ⟨h,_⟩ | ⟨h,_⟩ | ⟨h,_⟩ | ⟨_,ha,hb,hcc⟩
     ·rw [hi] at h; cases h
     ·rw [hi] at h; cases h
     ·rw [hi] at h; cases h
     ·exact h1 hlt ha hb hcc
    ·exact h2 hlt
   rcases HR.out with ⟨h12,hR⟩ | ⟨h12,hK,hR⟩ | ⟨h12,hK,hR⟩
   all_goals
    have HRR:=Lib.hid hR
    clear hR HR
    refine go _ (fun hlt t1 t2 t3=> ?_) (fun hlt=> ?_)
   all_goals
    clear go
    go_wp2_with (first | (go_at_call 93; refine (jO _ _).mono ?_; rintro e w' ⟨rfl,rfl⟩) | (go_at_call 95; refine (jH _ _).mono ?_; rintro e w' ⟨rfl,rfl⟩) | (go_at_call 129; refine (uM _ _ (dI.alloc _)).mono ?_; rintro e w' ⟨rfl,rfl⟩))
   ·exact bodyPost_ret (v:= .tuple #[.agg #[.int .i64 0,.string ⟨#[]⟩,.int .i64 0],.int .i64 2]) (by simp [results,Tryz.results94,go_sem]) rfl ⟨by rw [HRR.out]; rfl,(Below.refl _ _).alloc (Nat.le_refl _) _⟩
   ·exact bodyPost_ret (v:= .tuple #[.agg #[.int .i64 0,.string ⟨#[]⟩,.int .i64 0],.int .i64 2]) (by simp [results,Tryz.results94,go_sem]) rfl ⟨by rw [HRR.out]; rfl,(Below.refl _ _).alloc (Nat.le_refl _) _⟩
   ·exact bodyPost_ret (v:= .tuple #[.agg #[.int .i64 3,.string (s.extract 0 k),.int .i64 0],.int .i64 0]) (by simp [results,Tryz.results94,go_sem]) rfl ⟨by rw [HRR.out,EX.out]; rfl,(Below.refl _ _).alloc (Nat.le_refl _) _⟩
   ·exact bodyPost_ret (v:= .tuple #[.agg #[.int .i64 3,.string (s.extract 0 k),.int .i64 0],.int .i64 0]) (by simp [results,Tryz.results94,go_sem]) rfl ⟨by rw [HRR.out,EX.out]; rfl,(Below.refl _ _).alloc (Nat.le_refl _) _⟩
   ·exact bodyPost_ret (v:= .tuple #[.agg #[.int .i64 1,.string (s.extract 0 k),.int .i64 0],.int .i64 0]) (by simp [results,Tryz.results94,go_sem]) rfl ⟨by rw [HRR.out,EX.out]; rfl,(Below.refl _ _).alloc (Nat.le_refl _) _⟩
   ·exact bodyPost_ret (v:= .tuple #[.agg #[.int .i64 1,.string (s.extract 0 k),.int .i64 0],.int .i64 0]) (by simp [results,Tryz.results94,go_sem]) rfl ⟨by rw [HRR.out,EX.out]; rfl,(Below.refl _ _).alloc (Nat.le_refl _) _⟩
end Go.Proofs.YtdajkddgnfgijaaGreatDoor
end
