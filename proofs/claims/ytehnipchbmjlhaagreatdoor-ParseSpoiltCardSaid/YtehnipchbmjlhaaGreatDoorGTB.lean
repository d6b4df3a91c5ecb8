/-
  Contracts of the leaf functions of the token layer and of what of package strings it calls.
  The leaves and the keywords together.
  Contracts of token.comment, strings.TrimLeft at a zero, token.sign, token.word, token.number, token.first.
-/
import Derived.Test.YtehnipchbmjlhaaGreatDoorGTA
import Derived.Deep.Light
set_option linter.unusedSimpArgs false
set_option linter.unusedVariables false
set_option maxHeartbeats 40000000
set_option maxRecDepth 1000000
section
namespace Go.Proofs.YtehnipchbmjlhaaGreatDoor
open Go.RowKit
theorem kJ (c:Int) (w:World):
 Calls Tryz.prog 102 #[.int .u8 c] w fun e w'=>e= .returned (.bool (Tk.mU c))∧w=w':=by
 unfold Tk.mU
 go_enter Tryz.func102,Tryz.ntmps102
 go_wp2
 all_goals go_ret
 all_goals first | (simp [*]; done) | (simp [*]; omega)
theorem kF (c:Int) (w:World):
 Calls Tryz.prog 104 #[.int .u8 c] w fun e w'=>e= .returned (.bool (Tk.jF c))∧w=w':=by
 unfold Tk.jF
 go_enter Tryz.func104,Tryz.ntmps104
 go_wp2
 all_goals go_ret
 all_goals first | (simp [*]; done) | (simp [*]; omega)
theorem Hl (s p:ByteArray) (w:World):
 Calls Tryz.prog 62 #[.string s,.string p] w fun e w'=>e= .returned (.bool (Lib.hasPrefix s.data.toList p.data.toList))∧w=w':=by
 rw [← Lib.hasPrefix_of_take,← Lib.size_eq,← Lib.size_eq]
 go_enter Tryz.func62,Tryz.ntmps62
 go_wp2
 ·rename_i h
  go_ret
  refine ⟨?_,rfl⟩
  show Ending.returned (Value.bool ((s.extract 0 p.size).toList == p.toList))=_
  rw [Lib.extract_toList,Lib.toList_data]
  simp [h]
 ·rename_i h
  go_ret
  refine ⟨?_,rfl⟩
  show Ending.returned (Value.bool false)=_
  simp [h]
theorem uS (s:ByteArray) (c:Int) (w:World):
 Calls Tryz.prog 127 #[.string s,.int .u8 c] w fun e w'=>e= .returned (.int .i64 (Lib.indexByte s.data.toList c.toNat.toUInt8))∧w=w':=by
 go_enter Tryz.func127,Tryz.ntmps127
 go_wp2
 rw [run_callFunc_extern Tryz.func151 (by kernel_rfl) (by kernel_rfl) (by kernel_rfl) (e:=Extern.BytealgIndexByte.indexByte) (by kernel_rfl),Lib.run_indexByteString]
 simp only [Result.andThen]
 rw [Oper.upon_value]
 go_wp2
 go_ret
 exact ⟨rfl,rfl⟩
theorem uE (s:ByteArray) (c:Int) (w:World):
 Calls Tryz.prog 101 #[.string s,.int .u8 c] w fun e w'=>e= .returned (.int .i64 (Lib.indexByte s.data.toList c.toNat.toUInt8))∧w=w':=by
 go_enter Tryz.func101,Tryz.ntmps101
 go_wp2_with (go_at_call 127; refine (uS _ _ _).mono ?_; rintro e w' ⟨rfl,rfl⟩)
 go_ret
 exact ⟨rfl,rfl⟩
end Go.Proofs.YtehnipchbmjlhaaGreatDoor
end
section
namespace Go.Proofs.YtehnipchbmjlhaaGreatDoor
open Go.RowKit
theorem KR (s:ByteArray) (w:World) (_hs:s.size≤4096):
 Calls Tryz.prog 63 #[.string s] w fun e w'=>e= .returned (.int .i64 (Tk.xC s.data.toList))∧w=w':=by
 have hle:=Tk.R3 s.data.toList
 have hsz:=Lib.size_eq s
 by_cases h:0≤Lib.indexByte s.data.toList 10
 ·have he:=Tk.YR _ h
  rw [← he]
  clear he hsz
  go_enter Tryz.func63,Tryz.ntmps63
  go_wp2_with (go_at_call 101; refine (uE _ _ _).mono ?_; rintro e w' ⟨rfl,rfl⟩)
  go_ret
  exact ⟨rfl,rfl⟩
 ·have h':Lib.indexByte s.data.toList 10 < 0:=by omega
  have he:=Tk.XD _ h'
  rw [← he,← hsz]
  clear he hsz h
  go_enter Tryz.func63,Tryz.ntmps63
  go_wp2_with (go_at_call 101; refine (uE _ _ _).mono ?_; rintro e w' ⟨rfl,rfl⟩)
  go_ret
  exact ⟨rfl,rfl⟩
theorem CY (s:ByteArray) (w:World):
 Calls Tryz.prog 152 #[.string s,.int .u8 48] w fun e w'=>e= .returned (.string ⟨(s.data.toList.dropWhile (· == 48)).toArray⟩)∧w=w':=by
 go_enter Tryz.func152,Tryz.ntmps152
 go_wp2
 go_loop [0] (fun v=> ∃t:ByteArray,v= .string t∧Tk.lV t s) (fun v=>Lib.strSize v)
 case atStart=>exact ⟨s,rfl,Tk.lV.refl s⟩
 case round=>
  obtain ⟨t,rfl,ht⟩:=hrel
  by_cases h0:0 < t.size
  ·by_cases he:t[0]=48
   ·have hb:((t[0].toNat:Int) == 48)=true:=by rw [he]; rfl
    have hst:=ht.step h0 he
    have hz:(t.extract 1 t.size).size < t.size:=by simp [ByteArray.size_extract]; omega
    have H:=Lib.hid he
    clear he
    go_wp2
    go_round
    case rel=>exact ⟨_,rfl,hst⟩
    case measure=>exact hz
   ·have hb:((t[0].toNat:Int) == 48)=false:=by
     rw [beq_eq_false_iff_ne]
     intro h
     exact he (UInt8.toNat_inj.1 (by rw [show t[0].toNat=48 from by omega]; rfl))
    have hd:=ht.done (fun _=>he)
    have H:=Lib.hid hd
    clear hd he
    go_wp2
    go_ret
    exact ⟨congrArg (fun x=>Ending.returned (.string x)) H.out,rfl⟩
  ·have hd:=ht.done (fun h=>absurd h h0)
   have H:=Lib.hid hd
   clear hd
   go_wp2
   go_ret
   exact ⟨congrArg (fun x=>Ending.returned (.string x)) H.out,rfl⟩
theorem He (s:ByteArray) (w:World) (h:s.toList.isEmpty=false):
 Calls Tryz.prog 128 #[.string s,.string ⟨#[48]⟩] w fun e w'=>e= .returned (.string ⟨(s.data.toList.dropWhile (· == 48)).toArray⟩)∧w=w':=by
 have h2:s.toList≠[]:=by intro e; rw [e] at h; cases h
 go_enter Tryz.func128,Tryz.ntmps128
 go_wp2_with (go_at_call 152; refine (CY _ _).mono ?_; rintro e w' ⟨rfl,rfl⟩)
 go_ret
 exact ⟨rfl,rfl⟩
def ru (r:Nat × Nat × List UInt8):Value:= .tuple #[.agg #[.int .i64 r.2.1,.string ⟨r.2.2.toArray⟩,.int .i64 0],.int .i64 r.1]
theorem Vp (s:ByteArray) (h:0 < s.size):s.data.toList.headD 0=s[0]:=by
 rw [Tk.qN s h]; rfl
theorem Yj (s:ByteArray) (h:0 < s.size):((Tk.gX s.data.toList).length:Int)=if 2≤(s.size:Int)∧Tk.yg.contains (s.extract 0 2).toList=true then 2 else if (0:Int)≤Lib.indexByte Tk.GN s[0] then 1 else 0:=by
 have hl:=Lib.size_eq s
 rw [Tk.yR,Lib.extract_toList]
 simp only [List.drop_zero,Nat.sub_zero]
 have h1:s.data.toList.take 1=[s[0]]:=by rw [Tk.qN s h]; rfl
 rw [h1,Tk.Kj,Tk.zf]
 by_cases h2:Tk.yg.contains (s.data.toList.take 2)=true
 ·have h3:(s.data.toList.take 2).length=2:=by
   have: ∀x,Tk.yg.contains x=true→x.length=2:=by
    intro x hx
    rw [List.contains_iff_mem] at hx
    have: ∀y ∈ Tk.yg,y.length=2:=by decide
    exact this x hx
   exact this _ h2
  have h4:2≤(s.size:Int):=by rw [List.length_take] at h3; omega
  rw [if_pos h2,if_pos ⟨h4,h2⟩,h3]
  rfl
 ·rw [if_neg h2]
  have h6: ¬ (2≤(s.size:Int)∧Tk.yg.contains (s.data.toList.take 2)=true):=fun h=>h2 h.2
  rw [if_neg h6]
  by_cases h5:(0:Int)≤Lib.indexByte Tk.GN s[0]
  ·rw [if_pos h5,if_pos (by simpa using h5)]; rfl
  ·rw [if_neg h5,if_neg (by simpa using h5)]; rfl
theorem Wj (s:ByteArray) (h:0 < s.size):((Tk.gX s.data.toList).length:Int)=if decide (2≤(s.size:Int)) && (((s.extract 0 2).toList == [124,124]) || (((s.extract 0 2).toList == [38,38]) || (((s.extract 0 2).toList == [61,61]) || (((s.extract 0 2).toList == [33,61]) || (((s.extract 0 2).toList == [60,61]) || ((s.extract 0 2).toList == [62,61])))))) then 2 else if (0:Int)≤Lib.indexByte [60,62,43,45,42,47,37,33,61,40,41,91,93,123,125,44,59] s[0] then 1 else 0:=by
 rw [Yj s h]
 have e:Tk.yg.contains (s.extract 0 2).toList=(((s.extract 0 2).toList == [124,124]) || (((s.extract 0 2).toList == [38,38]) || (((s.extract 0 2).toList == [61,61]) || (((s.extract 0 2).toList == [33,61]) || (((s.extract 0 2).toList == [60,61]) || ((s.extract 0 2).toList == [62,61])))))):=by
  unfold Tk.yg
  simp only [List.contains_cons,List.contains_nil,Bool.or_false]
 rw [← e]
 simp only [Bool.and_eq_true,decide_eq_true_eq]
 rfl
theorem Jd (s:ByteArray) (w:World) (h:0 < s.size):
 Calls Tryz.prog 106 #[.string s] w fun e w'=>e= .returned (.int .i64 (Tk.gX s.data.toList).length)∧w=w':=by
 have H:=Lib.hid (Wj s h)
 go_enter Tryz.func106,Tryz.ntmps106
 go_wp2_with (go_at_call 101; refine (uE _ _ _).mono ?_; rintro e w' ⟨rfl,rfl⟩)
 all_goals go_ret
 all_goals (refine ⟨LC ?_,rfl⟩; rw [H.out]; clear H; go_light; first | (exfalso; simp_all; done) | (simp only [*,Bool.or_true,Bool.true_or,Bool.or_false,Bool.and_true,Bool.and_false,decide_true,if_true,if_false,Bool.false_eq_true]; done) | (rw [if_neg (by simp only [*,Bool.or_false,Bool.and_false,Bool.false_eq_true,not_false_eq_true])]; first | (rw [if_pos (by assumption)]; done) | (rw [if_neg (by omega)]; done)) | (rw [if_neg (by simp; omega)]; first | (rw [if_pos (by assumption)]; done) | (rw [if_neg (by omega)]; done)))
theorem zo (s:ByteArray) (j:Nat) (h:j < s.data.toList.length):s.data.toList[j]=s[j]'(by rw [Lib.size_eq]; exact h):=rfl
def Am (p:UInt8→Bool) (s:ByteArray) (k:Nat):Prop:= ∀j (h:j < s.size),j < k→p s[j]=true
theorem Am.step {p:UInt8→Bool} {s:ByteArray} {k:Nat} (h:Am p s k) (hk:k < s.size) (hp:p s[k]=true):Am p s (k + 1):=by
 intro j hj hjk
 by_cases e:j=k
 ·subst e; exact hp
 ·exact h j hj (by omega)
theorem Am.one {p:UInt8→Bool} {s:ByteArray} (h:0 < s.size) (hp:p s[0]=true):Am p s 1:=by
 intro j hj h1
 obtain rfl:j=0:=by omega
 exact hp
theorem Am.len {p:UInt8→Bool} {s:ByteArray} {k:Nat} (h:Am p s k) (hk:k≤s.size) (hp: ∀h:k < s.size,p s[k]=false):(s.data.toList.takeWhile p).length=k:=by
 refine Tk.uF p _ k (by rw [← Lib.size_eq]; exact hk) (fun j hj hjk=> ?_) (fun hj=> ?_)
 ·rw [zo]; exact h j _ hjk
 ·rw [zo]; exact hp _
theorem zR {p:UInt8→Bool} {s:ByteArray} {k:Nat} (h:(s.data.toList.takeWhile p).length=k):s.extract 0 k=⟨(s.data.toList.takeWhile p).toArray⟩:=by
 rw [Lib.extract_upto,← h,Tk.take_takeWhile]
theorem ED {p:UInt8→Bool} {s:ByteArray} {k:Nat} (h:(s.data.toList.takeWhile p).length=k):(s.extract 0 k).data.toList=s.data.toList.takeWhile p:=by
 rw [zR h]
theorem Nr (l:List UInt8) (k:Nat) (h:(l.takeWhile Tk.gK).length=k) (h12:12 < k):Tk.mG l=(2,0,[]):=by
 unfold Tk.mG; rw [if_pos (by omega)]
theorem Tn (l:List UInt8) (k:Nat) (h:(l.takeWhile Tk.gK).length=k) (h12: ¬ 12 < k) (hk:Tk.jQ (l.takeWhile Tk.gK)=true):Tk.mG l=(0,3,l.takeWhile Tk.gK):=by
 unfold Tk.mG; rw [if_neg (by omega),if_pos hk]
theorem Rf (l:List UInt8) (k:Nat) (h:(l.takeWhile Tk.gK).length=k) (h12: ¬ 12 < k) (hk:Tk.jQ (l.takeWhile Tk.gK)=false):Tk.mG l=(0,1,l.takeWhile Tk.gK):=by
 unfold Tk.mG; rw [if_neg (by omega),if_neg (by rw [hk]; decide)]
theorem Te (s:ByteArray) (w:World) (hs:s.size≤4096) (h0:0 < s.size) (hL:Tk.rY s[0]=true) (jJ:eT w):
 Calls Tryz.prog 103 #[.string s] w fun e w'=>e= .returned (ru (Tk.mG s.data.toList))∧Below w.heap.size w w':=by
 have hI0:=JJ _ hL
 have HL:=Lib.hid hL
 clear hL
 go_enter Tryz.func103,Tryz.ntmps103
 go_wp2
 go_loop [4] (fun i=> ∃k:Nat,1≤k∧k≤s.size∧i= .int .i64 k∧Am Tk.gK s k) (fun i=>s.size - (intOf i).toNat)
 case atStart=>exact ⟨1,Nat.le_refl _,h0,rfl,Am.one h0 hI0⟩
 case round=>
  obtain ⟨k,hk1,hk,rfl,hin⟩:=hrel
  clear hI0
  by_cases hc: ∃h:k < s.size,Tk.gK s[k]=true
  ·obtain ⟨hlt,hi⟩:=hc
   have hst:=hin.step hlt hi
   rcases wX s[k] with ⟨_,h1⟩ | ⟨_,h1,h2⟩ | ⟨_,h1,h2,h3⟩ | ⟨h4,_⟩
   case inr.inr.inr=>rw [hi] at h4; cases h4
   all_goals
    clear hi
    go_wp2_with (first | (go_at_call 102; refine (kJ _ _).mono ?_; rintro e w' ⟨rfl,rfl⟩) | (go_at_call 104; refine (kF _ _).mono ?_; rintro e w' ⟨rfl,rfl⟩))
    go_round
    case rel=>exact ⟨k + 1,by omega,by omega,by go_num,hst⟩
    case measure=>simp [intOf]; omega
  ·have hlen:(s.data.toList.takeWhile Tk.gK).length=k:=hin.len hk (fun h=>by
    rw [Bool.eq_false_iff]; exact fun e=>hc ⟨h,e⟩)
   have ed:s.data.toList.take k=s.data.toList.takeWhile Tk.gK:=by rw [← hlen,Tk.take_takeWhile]
   have EX:=Lib.hid (zR hlen)
   have HR:Hid ((12 < k∧Tk.mG s.data.toList=(2,0,[]))∨(¬ 12 < k∧Tk.jQ (s.data.toList.take k)=true∧Tk.mG s.data.toList=(0,3,s.data.toList.takeWhile Tk.gK))∨
    (¬ 12 < k∧Tk.jQ (s.data.toList.take k)=false∧Tk.mG s.data.toList=(0,1,s.data.toList.takeWhile Tk.gK))):=by
    apply Lib.hid
    rw [ed]
    by_cases h12:12 < k
    ·exact .inl ⟨h12,Nr _ k hlen h12⟩
    ·cases hK:Tk.jQ (s.data.toList.takeWhile Tk.gK)
     ·exact .inr (.inr ⟨h12,rfl,Rf _ k hlen h12 hK⟩)
     ·exact .inr (.inl ⟨h12,rfl,Tn _ k hlen h12 hK⟩)
   have HC:Hid (k < s.size→ ∃h:k < s.size,Tk.gK s[k]=false):=Lib.hid fun h=>⟨h,by rw [Bool.eq_false_iff]; exact fun e=>hc ⟨h,e⟩⟩
   clear hc ed hlen
   have go: ∀Z:Prop,((hlt:k < s.size)→Tk.mU (s[k].toNat:Int)=false→Tk.jF (s[k].toNat:Int)=false→((s[k].toNat:Int) == 95)=false→Z)→(¬ k < s.size→Z)→Z:=by
    intro Z h1 h2
    by_cases hlt:k < s.size
    ·obtain ⟨_,hi⟩:=HC.out hlt
     rcases wX s[k] with ⟨h,_⟩ | ⟨h,_⟩ | ⟨h,_⟩ | ⟨_,ha,hb,hcc⟩
     ·rw [hi] at h; cases h
     ·rw [hi] at h; cases h
     ·rw [hi] at h; cases h
     ·exact h1 hlt ha hb hcc
    ·exact h2 hlt
   rcases HR.out with ⟨h12,hR⟩ | ⟨h12,hK,hR⟩ | ⟨h12,hK,hR⟩
   all_goals
    have HRR:=Lib.hid hR
    clear hR HR
    refine go _ (fun hlt t1 t2 t3=> ?_) (fun hlt=> ?_)
   all_goals
    clear go
    go_wp2_with (first | (go_at_call 102; refine (kJ _ _).mono ?_; rintro e w' ⟨rfl,rfl⟩) | (go_at_call 104; refine (kF _ _).mono ?_; rintro e w' ⟨rfl,rfl⟩) | (go_at_call 71; refine (uw _ _ (jJ.alloc _)).mono ?_; rintro e w' ⟨rfl,rfl⟩))
   ·exact bodyPost_ret (v:= .tuple #[.agg #[.int .i64 0,.string ⟨#[]⟩,.int .i64 0],.int .i64 2]) (by simp [results,Tryz.results103,go_sem]) rfl ⟨by rw [HRR.out]; rfl,(Below.refl _ _).alloc (Nat.le_refl _) _⟩
   ·exact bodyPost_ret (v:= .tuple #[.agg #[.int .i64 0,.string ⟨#[]⟩,.int .i64 0],.int .i64 2]) (by simp [results,Tryz.results103,go_sem]) rfl ⟨by rw [HRR.out]; rfl,(Below.refl _ _).alloc (Nat.le_refl _) _⟩
   ·exact bodyPost_ret (v:= .tuple #[.agg #[.int .i64 3,.string (s.extract 0 k),.int .i64 0],.int .i64 0]) (by simp [results,Tryz.results103,go_sem]) rfl ⟨by rw [HRR.out,EX.out]; rfl,(Below.refl _ _).alloc (Nat.le_refl _) _⟩
   ·exact bodyPost_ret (v:= .tuple #[.agg #[.int .i64 3,.string (s.extract 0 k),.int .i64 0],.int .i64 0]) (by simp [results,Tryz.results103,go_sem]) rfl ⟨by rw [HRR.out,EX.out]; rfl,(Below.refl _ _).alloc (Nat.le_refl _) _⟩
   ·exact bodyPost_ret (v:= .tuple #[.agg #[.int .i64 1,.string (s.extract 0 k),.int .i64 0],.int .i64 0]) (by simp [results,Tryz.results103,go_sem]) rfl ⟨by rw [HRR.out,EX.out]; rfl,(Below.refl _ _).alloc (Nat.le_refl _) _⟩
   ·exact bodyPost_ret (v:= .tuple #[.agg #[.int .i64 1,.string (s.extract 0 k),.int .i64 0],.int .i64 0]) (by simp [results,Tryz.results103,go_sem]) rfl ⟨by rw [HRR.out,EX.out]; rfl,(Below.refl _ _).alloc (Nat.le_refl _) _⟩
end Go.Proofs.YtehnipchbmjlhaaGreatDoor
end
