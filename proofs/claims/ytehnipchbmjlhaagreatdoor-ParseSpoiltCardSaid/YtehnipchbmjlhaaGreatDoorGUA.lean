/-
  Contracts of the reference's Signs and Number.
  Contract of the reference's signAt.
  Contract of the reference's Scan.
-/
import Derived.Test.YtehnipchbmjlhaaGreatDoorGSA
import Derived.Test.YtehnipchbmjlhaaGreatDoorGTC
set_option linter.unusedSimpArgs false
set_option linter.unusedVariables false
set_option maxHeartbeats 40000000
set_option maxRecDepth 1000000
section
namespace Go.Proofs.YtehnipchbmjlhaaGreatDoor
open Go.RowKit
def jh (k:Nat):ByteArray:=⟨(Tk.qX.getD k []).toArray⟩
def Df:List Value:=Tk.qX.map fun l=>Value.string ⟨l.toArray⟩
theorem KV (k:Nat) (h:k < 23):Df[k]? =some (.string (jh k)):=by
 have hl:Tk.qX.length=23:=rfl
 unfold Df jh
 rw [List.getElem?_map,List.getElem?_eq_getElem (by omega)]
 simp [h,hl]
theorem QG (w:World):
 Calls Tryz.prog 117 #[] w fun e w'=>e= .returned (.slice (some ⟨w.heap.size,0,none⟩) 23 23)∧w.alloc (.cells Df.toArray 9)=w':=by
 go_enter Tryz.func117,Tryz.ntmps117
 go_wp2
 go_ret
 exact ⟨rfl,rfl⟩
def sO (l:List UInt8):Nat × Bool:=if l.all Tk.eF && Tk.kU l then (Tk.val l,!l.isEmpty) else (0,false)
theorem JX (l:List UInt8) (c:UInt8):Tk.val (l++[c])=10 * Tk.val l + (c.toNat - 48):=by unfold Tk.val; rw [List.foldl_append]; rfl
theorem Ns (l m:List UInt8):Tk.val l≤Tk.val (l++m):=by
 have:=Tk.Gn m (Tk.val l)
 unfold Tk.val at *
 rw [List.foldl_append,this]
 have h:List.foldl (fun n (c:UInt8)=>10 * n + (c.toNat - 48)) 0 l * 1≤List.foldl (fun n (c:UInt8)=>10 * n + (c.toNat - 48)) 0 l * 10 ^ m.length:=Nat.mul_le_mul_left _ (Nat.pow_pos (by omega))
 omega
def zK (s:ByteArray) (k n:Nat):Prop:=n=Tk.val (s.data.toList.take k)∧n≤9223372036854775807∧(s.data.toList.take k).all Tk.eF=true
theorem BI (s:ByteArray) (k:Nat) (h:k < s.size):s.data.toList.take (k + 1)=s.data.toList.take k++[s[k]]:=by
 rw [List.take_succ_eq_append_getElem (by rw [← Lib.size_eq]; exact h)]; rfl
theorem zK.step {s:ByteArray} {k n:Nat} (h:zK s k n) (hk:k < s.size) (hd:Tk.eF s[k]=true) (hle:10 * n + (s[k].toNat - 48)≤9223372036854775807):zK s (k + 1) (10 * n + (s[k].toNat - 48)):=by
 obtain ⟨rfl,_,h3⟩:=h
 refine ⟨?_,hle,?_⟩
 ·rw [BI s k hk,JX]
 ·rw [BI s k hk,List.all_append,h3]
  simp [hd]
theorem R9 {s:ByteArray} {k n:Nat} (h:zK s k n) (hk:k < s.size) (hgt:9223372036854775807 < 10 * n + (s[k].toNat - 48)):sO s.data.toList=(0,false):=by
 have hv: ¬ Tk.val s.data.toList≤9223372036854775807:=by
  have:=Ns (s.data.toList.take (k + 1)) (s.data.toList.drop (k + 1))
  rw [List.take_append_drop,BI s k hk,JX,← h.1] at this
  omega
 unfold sO Tk.kU
 rw [decide_eq_false hv,Bool.and_false]
 rfl
theorem RJ {s:ByteArray} {k:Nat} (hk:k < s.size) (hd:Tk.eF s[k]=false):sO s.data.toList=(0,false):=by
 have:s.data.toList.all Tk.eF=false:=by
  rw [List.all_eq_false]
  exact ⟨s[k],List.getElem_mem (by rw [← Lib.size_eq]; exact hk),by rw [hd]; decide⟩
 unfold sO
 rw [this]
 rfl
theorem Qn {s:ByteArray} {n:Nat} (h:zK s s.size n):sO s.data.toList=(n,decide (0 < s.size)):=by
 obtain ⟨h1,h2,h3⟩:=h
 rw [Lib.size_eq,List.take_length] at h1 h3
 unfold sO Tk.kU
 rw [h3,← h1,decide_eq_true h2]
 have:(!s.data.toList.isEmpty)=decide (0 < s.size):=by
  rw [Lib.size_eq]
  cases s.data.toList <;> simp
 rw [this]
 rfl
theorem DZ (s:ByteArray) (w:World) (hm:s.size≤maxLen):
 Calls Tryz.prog 79 #[.string s] w fun e w'=>e= .returned (.tuple #[.int .i64 (sO s.data.toList).1,.bool (sO s.data.toList).2])∧w=w':=by
 unfold maxLen at hm
 have hst:zK s 0 0:=⟨rfl,by omega,rfl⟩
 go_enter Tryz.func79,Tryz.ntmps79
 go_wp2
 go_loop [4,5] (fun v i=> ∃k n:Nat,k≤s.size∧i= .int .i64 k∧v= .int .i64 n∧zK s k n) (fun _ i=>s.size - (intOf i).toNat)
 case atStart=>exact ⟨0,0,Nat.zero_le _,rfl,rfl,hst⟩
 case round=>
  obtain ⟨k,n,hk,rfl,rfl,hat⟩:=hrel
  clear hst
  have hn:=hat.2.1
  by_cases hlt:k < s.size
  ·cases hd:Tk.eF s[k]
   ·have hd':Tk.jF (s[k].toNat:Int)=false:=hd
    have HF:=Lib.hid (RJ hlt hd)
    clear hd
    go_wp2_with (go_at_call 78; refine (lM _ _).mono ?_; rintro e w' ⟨rfl,rfl⟩)
    go_ret2
    exact ⟨by rw [HF.out]; rfl,rfl⟩
   ·have hd':Tk.jF (s[k].toNat:Int)=true:=hd
    have hdd:=(Tk.sP _).1 hd
    have hst:=fun hle=>hat.step hlt hd hle
    have hbig:=fun hgt=>R9 hat hlt hgt
    clear hd hat
    by_cases hgt:(9223372036854775807 - ((s[k].toNat:Int) - 48)) / 10 < (n:Int)
    ·have HF:=Lib.hid (hbig (by omega))
     clear hst hbig
     go_wp2_with (go_at_call 78; refine (lM _ _).mono ?_; rintro e w' ⟨rfl,rfl⟩)
     go_ret2
     exact ⟨by rw [HF.out]; rfl,rfl⟩
    ·have hst':=hst (by omega)
     clear hst hbig
     go_wp2_with (go_at_call 78; refine (lM _ _).mono ?_; rintro e w' ⟨rfl,rfl⟩)
     go_round
     case rel=>exact ⟨k + 1,_,by omega,by go_num,by go_num,hst'⟩
     case measure=>simp [intOf]; omega
  ·obtain rfl:k=s.size:=by omega
   have HT:=Lib.hid (Qn hat)
   go_wp2
   go_ret2
   exact ⟨by rw [HT.out]; rfl,rfl⟩
end Go.Proofs.YtehnipchbmjlhaaGreatDoor
end
section
namespace Go.Proofs.YtehnipchbmjlhaaGreatDoor
open Go.RowKit
def tV (k:Nat):List UInt8:=Tk.qX.getD k []
theorem EJ (k:Nat) (h:k < Tk.qX.length):tV k=Tk.qX[k]:=by unfold tV; simp [h]
theorem KS (k:Nat):(jh k).toList=tV k:=by unfold jh; rw [Lib.toList_data]; rfl
theorem Aq (k:Nat):(jh k).size=(tV k).length:=by unfold jh; exact Lib.size_mk _
theorem RV (k:Nat) (h:k < 23):1≤(jh k).size∧(jh k).size≤2:=by
 rw [Aq,EJ k h]
 have: ∀g ∈ Tk.qX,1≤g.length∧g.length≤2:=by decide
 exact this _ (List.getElem_mem _)
def F9 (l:List UInt8) (k:Nat):Prop:= ∀j < k,(tV j).isPrefixOf l=false
theorem F9.step {l:List UInt8} {k:Nat} (h:F9 l k) (hk:(tV k).isPrefixOf l=false):F9 l (k + 1):=by
 intro j hj
 by_cases e:j=k
 ·subst e; exact hk
 ·exact h j (by omega)
theorem Lg (l:List UInt8): ∀(gs:List (List UInt8)) (k:Nat) (hk:k < gs.length),(∀j (h:j < gs.length),j < k→gs[j].isPrefixOf l=false)→gs[k].isPrefixOf l=true→(gs.find? fun g=>g.isPrefixOf l)=some gs[k]
 | [],k,hk,_,_=>by simp at hk
 | g ::gs,0,_,_,h=>by
   simp only [List.getElem_cons_zero] at h ⊢
   rw [List.find?_cons,h]
 | g ::gs,k + 1,hk,hno,h=>by
   have h0:=hno 0 (by simp) (by omega)
   simp only [List.getElem_cons_zero] at h0
   rw [List.find?_cons,h0]
   simp only [List.getElem_cons_succ] at h ⊢
   exact Lg l gs k (by simpa using hk) (fun j hj hjk=>by
    have:=hno (j + 1) (by simpa using hj) (by omega)
    simpa using this) h
theorem VJ (l:List UInt8) (k:Nat) (hk:k < 23) (hno:F9 l k) (h:(tV k).isPrefixOf l=true):Tk.gX l=tV k:=by
 unfold Tk.gX
 rw [EJ k hk] at h ⊢
 rw [Lg l Tk.qX k hk (fun j hj hjk=>by have:=hno j hjk; rw [EJ j hj] at this; exact this) h]
 rfl
theorem Ox (l:List UInt8) (hno:F9 l 23):Tk.gX l=[]:=by
 unfold Tk.gX
 have:(Tk.qX.find? fun g=>g.isPrefixOf l)=none:=by
  rw [List.find?_eq_none]
  intro g hg
  obtain ⟨j,hj,rfl⟩:=List.getElem_of_mem hg
  have:=hno j hj
  rw [EJ j hj] at this
  rw [this]
  decide
 rw [this]
 rfl
theorem Rz (s:ByteArray) (i k:Nat) (hi:i≤s.size):((tV k).isPrefixOf (s.data.toList.drop i)=true∧i + (jh k).size≤s.size∧((s.extract i (i + (jh k).size)).toList == tV k)=true)∨
 ((tV k).isPrefixOf (s.data.toList.drop i)=false∧i + (jh k).size≤s.size∧((s.extract i (i + (jh k).size)).toList == tV k)=false)∨
 ((tV k).isPrefixOf (s.data.toList.drop i)=false∧ ¬ i + (jh k).size≤s.size):=by
 have e:(s.extract i (i + (jh k).size)).toList=(s.data.toList.drop i).take (tV k).length:=by
  rw [Lib.extract_toList,Aq]
  congr 1
  omega
 rw [e,Aq]
 cases hp:(tV k).isPrefixOf (s.data.toList.drop i)
 ·by_cases hle:i + (tV k).length≤s.size
  ·right; left
   refine ⟨rfl,hle,?_⟩
   rw [beq_eq_false_iff_ne]
   intro h
   have:(tV k).isPrefixOf (s.data.toList.drop i)=true:=List.isPrefixOf_iff_prefix.2 (h ▸ List.take_prefix _ _)
   rw [hp] at this
   cases this
  ·right; right; exact ⟨rfl,hle⟩
 ·left
  obtain ⟨r,hr⟩:=List.isPrefixOf_iff_prefix.1 hp
  refine ⟨rfl,?_,?_⟩
  ·have:=congrArg List.length hr
   rw [List.length_append,List.length_drop,← Lib.size_eq] at this
   omega
  ·rw [← hr,beq_iff_eq]; simp
theorem Ms (s:ByteArray) (i:Nat) (w:World) (hs:s.size≤5000) (hi:i≤s.size):
 Calls Tryz.prog 80 #[.string s,.int .i64 i] w fun e w'=>e= .returned (.string ⟨(Tk.gX (s.data.toList.drop i)).toArray⟩)∧Below w.heap.size w w':=by
 go_enter Tryz.func80,Tryz.ntmps80
 go_wp2_with fail
 refine (QG _).mono ?_
 rintro e w1 ⟨rfl,hw⟩
 have hcell: ∀k,k < 23→w1.cell? ⟨w.heap.size,k,none⟩=some (.string (jh k)):=fun k hk=>by
  rw [← hw,AQ,KV k hk]
 have HB:Hid (∀m,Below w.heap.size w (w1.drewN m)):=Lib.hid (fun m=>below_drewN (by rw [← hw]; exact (Below.refl _ _).alloc (Nat.le_refl _) _) m)
 have HC:=Lib.hid hcell
 clear hw hcell
 go_wp2
 go_loopw [6] (fun v wr=> ∃k m:Nat,k≤23∧v= .int .i64 k∧F9 (s.data.toList.drop i) k∧wr=w1.drewN m) (fun v _=>23 - (intOf v).toNat)
 case atStart=>exact ⟨0,0,Nat.zero_le _,rfl,fun j hj=>absurd hj (by omega),rfl⟩
 case round=>
  obtain ⟨k,m,hk,rfl,hno,rfl⟩:=hrel
  by_cases hlt:k < 23
  ·have hix:=HC.out k hlt
   have hat:=KS k
   obtain ⟨z1,z2⟩:=RV k hlt
   rcases Rz s i k hi with ⟨hp,hle,he⟩ | ⟨hp,hle,he⟩ | ⟨hp,hle⟩
   ·have HS:Hid (jh k=⟨(Tk.gX (s.data.toList.drop i)).toArray⟩):=Lib.hid (by rw [VJ _ k hlt hno hp]; rfl)
    have q1:decide (((jh k).size:Int)≤(s.size:Int) - (i:Int))=true:=by simp; omega
    have q2:IntKind.i64.wrap ((s.size:Int) - (i:Int))=(s.size:Int) - (i:Int):=IntWalk.i64_in _ (by omega)
    have q3:IntKind.i64.wrap ((i:Int) + ((jh k).size:Int))=(i:Int) + ((jh k).size:Int):=IntWalk.i64_in _ (by omega)
    have q4:((i:Int) + ((jh k).size:Int)).toNat=i + (jh k).size:=by omega
    have q5:0≤(i:Int) + ((jh k).size:Int):=by omega
    have q6:(i:Int)≤(i:Int) + ((jh k).size:Int):=by omega
    have q7:(i:Int) + ((jh k).size:Int)≤(s.size:Int):=by omega
    clear hp hno
    go_wp2
    go_quiet (fail)
    clear q1 q2 q3 q4 q5 q6 q7
    go_wp2
    go_ret
    refine ⟨congrArg (fun x=>Ending.returned (.string x)) HS.out,?_⟩
    first | exact HB.out _ | (rw [World.drewN_drewN]; exact HB.out _)
   ·have hst:=hno.step hp
    have q1:decide (((jh k).size:Int)≤(s.size:Int) - (i:Int))=true:=by simp; omega
    have q2:IntKind.i64.wrap ((s.size:Int) - (i:Int))=(s.size:Int) - (i:Int):=IntWalk.i64_in _ (by omega)
    have q3:IntKind.i64.wrap ((i:Int) + ((jh k).size:Int))=(i:Int) + ((jh k).size:Int):=IntWalk.i64_in _ (by omega)
    have q4:((i:Int) + ((jh k).size:Int)).toNat=i + (jh k).size:=by omega
    have q5:0≤(i:Int) + ((jh k).size:Int):=by omega
    have q6:(i:Int)≤(i:Int) + ((jh k).size:Int):=by omega
    have q7:(i:Int) + ((jh k).size:Int)≤(s.size:Int):=by omega
    clear hp hno
    go_wp2
    go_quiet (fail)
    clear q1 q2 q3 q4 q5 q6 q7
    go_wp2
    go_roundw
    case rel=>exact ⟨k + 1,_,by omega,by go_num,hst,rfl⟩
    case measure=>simp [intOf]; omega
   ·have hst:=hno.step hp
    have q1:decide (((jh k).size:Int)≤(s.size:Int) - (i:Int))=false:=by simp; omega
    have q2:IntKind.i64.wrap ((s.size:Int) - (i:Int))=(s.size:Int) - (i:Int):=IntWalk.i64_in _ (by omega)
    clear hp hno
    go_wp2
    go_quiet (fail)
    clear q1 q2
    go_wp2
    go_roundw
    case rel=>exact ⟨k + 1,_,by omega,by go_num,hst,rfl⟩
    case measure=>simp [intOf]; omega
  ·obtain rfl:k=23:=by omega
   have HT:Hid (Tk.gX (s.data.toList.drop i)=[]):=Lib.hid (Ox _ hno)
   clear hno
   go_wp2
   go_ret
   exact ⟨by rw [HT.out]; rfl,HB.out m⟩
end Go.Proofs.YtehnipchbmjlhaaGreatDoor
end
section
namespace Go.Proofs.YtehnipchbmjlhaaGreatDoor
open Go.RowKit
theorem KF (s:ByteArray) (k:Nat) (hk:k < s.size):
 ([47,47].isPrefixOf (s.data.toList.drop k)=true∧((s[k].toNat:Int) == 47)=true∧ ∃h:k + 1 < s.size,((s[k + 1].toNat:Int) == 47)=true)∨
 ([47,47].isPrefixOf (s.data.toList.drop k)=false∧(((s[k].toNat:Int) == 47)=false∨(((s[k].toNat:Int) == 47)=true∧ ¬ k + 1 < s.size)∨(((s[k].toNat:Int) == 47)=true∧ ∃h:k + 1 < s.size,((s[k + 1].toNat:Int) == 47)=false))):=by
 have hb: ∀c:UInt8,((c.toNat:Int) == 47)=(47 == c):=by
  intro c
  rw [Bool.eq_iff_iff,beq_iff_eq,beq_iff_eq]
  constructor
  ·intro h; exact (UInt8.toNat_inj.1 (by rw [show c.toNat=47 from by omega]; rfl)).symm
  ·rintro rfl; rfl
 have hk':k < s.data.toList.length:=by rw [← Lib.size_eq]; exact hk
 rw [List.drop_eq_getElem_cons hk',zo s k hk',hb]
 by_cases h1:k + 1 < s.size
 ·have h1':k + 1 < s.data.toList.length:=by rw [← Lib.size_eq]; exact h1
  rw [List.drop_eq_getElem_cons h1',zo s (k + 1) h1']
  have e:[47,47].isPrefixOf (s[k] ::s[k + 1] ::s.data.toList.drop (k + 1 + 1))=((47 == s[k]) && ((47 == s[k + 1]) && true)):=by simp [List.isPrefixOf]
  rw [e]
  cases h2:(47 == s[k])
  ·right; exact ⟨rfl,.inl rfl⟩
  ·cases h3:(47 == s[k + 1])
   ·right; exact ⟨rfl,.inr (.inr ⟨rfl,h1,by rw [hb]; exact h3⟩)⟩
   ·left; exact ⟨rfl,rfl,h1,by rw [hb]; exact h3⟩
 ·have e:s.data.toList.drop (k + 1)=[]:=List.drop_of_length_le (by rw [← Lib.size_eq]; omega)
  rw [e]
  right
  refine ⟨by simp [List.isPrefixOf],?_⟩
  cases h2:(47 == s[k])
  ·exact .inl rfl
  ·exact .inr (.inl ⟨rfl,h1⟩)
def rC (p:UInt8→Bool) (s:ByteArray) (a b:Nat):Prop:= ∀j (h:j < s.size),a≤j→j < b→p s[j]=true
theorem rC.start (p:UInt8→Bool) (s:ByteArray) (a:Nat):rC p s a a:=fun j _ h1 h2=>absurd h1 (by omega)
theorem rC.step {p:UInt8→Bool} {s:ByteArray} {a b:Nat} (h:rC p s a b) (hb:b < s.size) (he:p s[b]=true):rC p s a (b + 1):=by
 intro j hj h1 h2
 by_cases e:j=b
 ·subst e; exact he
 ·exact h j hj h1 (by omega)
theorem rC.len {p:UInt8→Bool} {s:ByteArray} {a b:Nat} (h:rC p s a b) (hab:a≤b) (hb:b≤s.size) (he: ∀h:b < s.size,p s[b]=false):((s.data.toList.drop a).takeWhile p).length=b - a:=by
 refine Tk.uF p _ (b - a) (by rw [List.length_drop,← Lib.size_eq]; omega) (fun j hj hjk=> ?_) (fun hj=> ?_)
 ·rw [List.getElem_drop]
  exact h (a + j) (by rw [List.length_drop,← Lib.size_eq] at hj; omega) (by omega) (by omega)
 ·rw [List.getElem_drop]
  have e:a + (b - a)=b:=by omega
  have hh:=he (by rw [List.length_drop,← Lib.size_eq] at hj; omega)
  simp only [e]
  exact hh
theorem rC.text {p:UInt8→Bool} {s:ByteArray} {a b:Nat} (h:((s.data.toList.drop a).takeWhile p).length=b - a):s.extract a b=⟨((s.data.toList.drop a).takeWhile p).toArray⟩:=by
 rw [Lib.extract_eq,← h,Tk.take_takeWhile]
theorem ZL (c:UInt8):((c.toNat:Int) != 10)=(c != 10):=by
 rw [Bool.eq_iff_iff,bne_iff_ne,bne_iff_ne]
 constructor
 ·intro h e; exact h (by rw [e]; rfl)
 ·intro h e; exact h (UInt8.toNat_inj.1 (by rw [show c.toNat=10 from by omega]; rfl))
def TT (s:ByteArray):Bool:=Tk.jQ s.data.toList
def uz (s:ByteArray):Bool:=(sO s.data.toList).2
def al4 (s:ByteArray):Nat:=(sO s.data.toList).1
def Ag (s:ByteArray) (k:Nat):ByteArray:=⟨(Tk.gX (s.data.toList.drop k)).toArray⟩
theorem yI (s:ByteArray) (w:World):
 Calls Tryz.prog 74 #[.string s] w fun e w'=>e= .returned (.bool (TT s))∧Below w.heap.size w w':=D9 s w
theorem Jl (s:ByteArray) (w:World) (hm:s.size≤maxLen):
 Calls Tryz.prog 79 #[.string s] w fun e w'=>e= .returned (.tuple #[.int .i64 (al4 s),.bool (uz s)])∧w=w':=DZ s w hm
theorem K3 (s:ByteArray) (i:Nat) (w:World) (hs:s.size≤5000) (hi:i≤s.size):
 Calls Tryz.prog 80 #[.string s,.int .i64 i] w fun e w'=>e= .returned (.string (Ag s i))∧Below w.heap.size w w':=Ms s i w hs hi
theorem head_drop (s:ByteArray) (k:Nat) (hk:k < s.size):(s.data.toList.drop k).headD 0=s[k]:=by
 rw [List.drop_eq_getElem_cons (by rw [← Lib.size_eq]; exact hk)]; rfl
theorem NU (s:ByteArray) (k b:Nat) (hk:k < s.size) (hL:Tk.rY s[k]=true) (h:((s.data.toList.drop k).takeWhile Tk.gK).length=b - k):
 Tk.first (s.data.toList.drop k)=if 12 < b - k then (2,0,[]) else (0,if TT (s.extract k b) then 3 else 1,(s.data.toList.drop k).takeWhile Tk.gK):=by
 unfold Tk.first Tk.mG TT
 rw [head_drop s k hk,if_pos hL,h,rC.text h]
theorem PE (s:ByteArray) (k b:Nat) (hk:k < s.size) (_hb:b≤s.size) (hkb:k < b) (hL:Tk.rY s[k]=false) (hD:Tk.eF s[k]=true) (h:((s.data.toList.drop k).takeWhile Tk.eF).length=b - k):
 ((uz (s.extract k b)=false∨(uz (s.extract k b)=true∧ ∃hlt:b < s.size,Tk.gK s[b]=true))∧Tk.first (s.data.toList.drop k)=(3,0,[]))∨
 ((uz (s.extract k b)=true∧ ∀hlt:b < s.size,Tk.gK s[b]=false)∧Tk.first (s.data.toList.drop k)=(0,2,(s.data.toList.drop k).takeWhile Tk.eF)):=by
 have hall:=uY Tk.eF (s.data.toList.drop k)
 have hne:((s.data.toList.drop k).takeWhile Tk.eF).isEmpty=false:=by
  cases hc:(s.data.toList.drop k).takeWhile Tk.eF with
  | nil=>rw [hc] at h; simp at h; omega
  | cons a r=>rfl
 have hB:uz (s.extract k b)=Tk.kU ((s.data.toList.drop k).takeWhile Tk.eF):=by
  unfold uz sO
  rw [rC.text h]
  show (if (((s.data.toList.drop k).takeWhile Tk.eF).all Tk.eF && Tk.kU ((s.data.toList.drop k).takeWhile Tk.eF))=true then (Tk.val ((s.data.toList.drop k).takeWhile Tk.eF),!((s.data.toList.drop k).takeWhile Tk.eF).isEmpty) else (0,false)).2=_
  rw [hall,hne,Bool.true_and]
  cases Tk.kU ((s.data.toList.drop k).takeWhile Tk.eF) <;> rfl
 have hdw:((s.data.toList.drop k).dropWhile Tk.eF)=s.data.toList.drop b:=by
  rw [← Tk.mZ,h,List.drop_drop]; congr 1; omega
 have hf:Tk.first (s.data.toList.drop k)=if ((s.data.toList.drop b).head?.any Tk.gK) || !uz (s.extract k b) then (3,0,[]) else (0,2,(s.data.toList.drop k).takeWhile Tk.eF):=by
  unfold Tk.first Tk.qZ
  rw [head_drop s k hk,hL,hD,hdw,hB]
  rfl
 rw [hf]
 by_cases hlt:b < s.size
 ·have e:(s.data.toList.drop b).head?.any Tk.gK=Tk.gK s[b]:=by
   rw [List.drop_eq_getElem_cons (by rw [← Lib.size_eq]; exact hlt)]; rfl
  rw [e]
  cases hn:uz (s.extract k b)
  ·left; exact ⟨.inl rfl,by simp⟩
  ·cases hi:Tk.gK s[b]
   ·right; exact ⟨⟨rfl,fun _=>hi⟩,by simp⟩
   ·left; exact ⟨.inr ⟨rfl,hlt,hi⟩,by simp⟩
 ·have e:s.data.toList.drop b=[]:=List.drop_of_length_le (by rw [← Lib.size_eq]; omega)
  rw [e]
  cases hn:uz (s.extract k b)
  ·left; exact ⟨.inl rfl,by simp⟩
  ·right; exact ⟨⟨rfl,fun h=>absurd h hlt⟩,by simp⟩
theorem Nq (s:ByteArray) (k:Nat) (hk:k < s.size) (hL:Tk.rY s[k]=false) (hD:Tk.eF s[k]=false):
 Tk.first (s.data.toList.drop k)=if (Ag s k).toList.isEmpty then (3,0,[]) else (0,4,Tk.gX (s.data.toList.drop k)):=by
 unfold Tk.first Tk.zu Ag
 rw [head_drop s k hk,hL,hD,Lib.toList_data]
 rfl
theorem Oy (c:Int) (h:Tk.mU c=true):(c == 47)=false:=by
 rw [beq_eq_false_iff_ne]; rintro rfl; revert h; decide
theorem Om (c:Int) (h:Tk.jF c=true):(c == 47)=false:=by
 rw [beq_eq_false_iff_ne]; rintro rfl; revert h; decide
theorem I5 {x:World} {g:Nat} (hz:x.heap.size=g) (t:TypeId) (a b c:Value): ∀j u,[a,b,c][j]? =some u→(x.alloc (.cells #[a,b,c] t)).cell? ((⟨g,0,none⟩:Addr).add j)=some u:=by
 subst hz
 intro j u hj
 match j,hj with
 | 0,hj=>simp at hj; subst hj; simp [Addr.add]
 | 1,hj=>simp at hj; subst hj; simp [Addr.add]
 | 2,hj=>simp at hj; subst hj; simp [Addr.add]
theorem MX (a:Int) (b:ByteArray) (c:Int): ∀u ∈ [Value.int .i64 a,.string b,.int .i64 c],u.oneCell'=true:=by
 intro u hu; simp at hu; rcases hu with rfl | rfl | rfl <;> rfl
theorem size_set (w:World) (p:Addr) (u:Value):(w.setCell p u).heap.size=w.heap.size:=by simp [World.setCell]
theorem zM {x:World} {B:Nat} {e:TypeId} {v:Value} {acc:List Tk.Tok} {kind line:Nat} {text:List UInt8} {b:ByteArray} (hb:b=⟨text.toArray⟩)
 (h:x.ownsRow B e 3 v (acc.length + 1) (Tk.cellsOf acc++[.int .i64 kind,.string b,.int .i64 line])):x.ownsRow B e 3 v (acc++[(⟨kind,text,line⟩:Tk.Tok)]).length (Tk.cellsOf (acc++[(⟨kind,text,line⟩:Tk.Tok)])):=by
 rw [Tk.BM,Tk.cells_one,List.length_append]; subst hb; exact h
theorem rF {B:Nat} {w x w2:World} {e:TypeId} {size:Nat} {v:Value} {n:Nat} {xs:List Value} (h:x.ownsRow B e size v n xs) (hb:Below B w x) (hB:B≤x.heap.size) (hg:x.grownBy w2 v.ownBlock):Below B w w2:=
 hb.grown hg hB (fun _ hk=>(h.lt _ hk).1)
theorem Wn {x:World} {B:Nat} {e:TypeId} {size:Nat} {v:Value} {n:Nat} {xs:List Value} (h:x.ownsRow B e size v n xs) {wo:World} (ho:wo.ownsRow B e size v n xs) (j:Nat) (u:Value):(x.setCell ⟨wo.heap.size,j,none⟩ u).ownsRow B e size v n xs:=
 ownsRow_setCell_other h (fun e=>by have:=(ho.lt _ e).2; simp at this) u
theorem KX (s:ByteArray) (w:World) (hm:s.size≤maxLen):
 Calls Tryz.prog 44 #[.string s] w (vW w (Tk.scan s.data.toList)):=by
 have hsz:=Lib.size_eq s
 unfold maxLen at hm
 by_cases hbig:4096 < s.size
 ·have HR:Hid (Tk.scan s.data.toList=([],2,0)):=by apply Lib.hid; unfold Tk.scan; rw [if_pos (by omega)]
  clear hsz
  go_enter Tryz.func44,Tryz.ntmps44
  go_wp2
  go_ret3
  rw [HR.out]
  exact ⟨_,rfl,World.ownsRow_nil _ _ _ _,Below.refl _ _⟩
 ·have HR:Hid (Tk.scan s.data.toList=Tk.gy s.data.toList.length s.data.toList 1 []):=by apply Lib.hid; unfold Tk.scan; rw [if_neg (by omega)]
  have hst:=Tk.SP.start s.data.toList
  rw [← HR.out] at hst
  generalize Tk.scan s.data.toList=R at *
  clear HR hsz
  obtain ⟨i0,hi,hz0,hz1,hz2⟩:=info_parts Tryz.infoTok
  have hs:s.size≤4096:=by omega
  clear hbig hm
  go_enter Tryz.func44,Tryz.ntmps44
  go_wp2
  go_loopw [5,6,7] (fun v ln i wr=> ∃(k line:Nat) (acc:List Tk.Tok),i= .int .i64 k∧ln= .int .i64 line∧Tk.SP s.data.toList R k line acc∧
   wr.ownsRow w.heap.size 112 3 v acc.length (Tk.cellsOf acc)∧Below w.heap.size w wr) (fun _ _ i _=>s.size - (intOf i).toNat)
  case atStart=>exact ⟨0,1,[],rfl,rfl,hst,World.ownsRow_nil _ _ _ _,Below.refl _ _⟩
  case round=>
   obtain ⟨k,line,acc,rfl,rfl,hsp,hown,hbel⟩:=hrel
   clear hst
   have hk:k≤s.size:=by rw [Lib.size_eq]; exact hsp.1
   have aa2:line≤k + 1:=hsp.2.1
   by_cases hlt:k < s.size
   ·have hlt':k < s.data.toList.length:=by rw [← Lib.size_eq]; exact hlt
    have hget:s.data.toList[k]=s[k]:=rfl
    by_cases h10:s[k]=10
    ·have hnx:=hsp.nl hlt' h10
     have hb:((s[k].toNat:Int) == 10)=true:=by rw [h10]; rfl
     have hb1:((s[k].toNat:Int) == 32)=false:=by rw [h10]; rfl
     have hb2:((s[k].toNat:Int) == 9)=false:=by rw [h10]; rfl
     have hb3:((s[k].toNat:Int) == 13)=false:=by rw [h10]; rfl
     clear h10 hget
     go_wp2
     go_roundw
     case rel=>exact ⟨k + 1,line + 1,acc,by go_num,by go_num,hnx,hown,hbel⟩
     case measure=>simp [intOf]; omega
    ·have hb:=Uz _ h10
     rcases Cx s[k] with ⟨hbl,hcase⟩ | ⟨hbl,t1,t2,t3⟩
     ·have hnx:=hsp.blank hlt' hbl
      clear h10 hget hbl
      rcases hcase with t1 | ⟨t1,t2⟩ | ⟨t1,t2,t3⟩
      all_goals
       go_wp2
       go_roundw
       case rel=>exact ⟨k + 1,line,acc,by go_num,rfl,hnx,hown,hbel⟩
       case measure=>simp [intOf]; omega
     ·rcases KF s k hlt with ⟨hp,p1,hk1,p2⟩ | ⟨hp,Hz⟩
      ·obtain ⟨hnx,hc1⟩:=hsp.xC hlt' h10 hbl hp
       have hn0:=rC.start (· != 10) s k
       clear hbl hp hget
       obtain ⟨wo,rfl⟩: ∃wo:World,wo=wr:=⟨_,rfl⟩
       go_wp2
       go_loop [7] (fun i=> ∃b:Nat,k≤b∧b≤s.size∧i= .int .i64 b∧rC (· != 10) s k b) (fun i=>s.size - (intOf i).toNat)
       case atStart=>exact ⟨k,Nat.le_refl _,by omega,rfl,hn0⟩
       case round=>
        obtain ⟨b,hkb,hbs,rfl,hno⟩:=hrel
        have hfin:(∀h:b < s.size,(s[b] != 10)=false)→Tk.SP s.data.toList R b line acc∧k < b:=fun he=>by
         have e:Tk.xC (s.data.toList.drop k)=b - k:=hno.len hkb hbs he
         rw [e,show k + (b - k)=b from by omega] at hnx
         exact ⟨hnx,by omega⟩
        clear hnx hc1
        by_cases hbl:b < s.size
        ·have hbn:=ZL s[b]
         cases FE:(s[b] != 10)
         ·rw [FE] at hbn
          obtain ⟨hnx,hkb'⟩:=hfin (fun _=>FE)
          clear hfin FE
          go_wp2
          go_roundw
          case rel=>exact ⟨b,line,acc,rfl,rfl,hnx,hown,hbel⟩
          case measure=>simp [intOf]; omega
         ·rw [FE] at hbn
          have hst:=hno.step hbl FE
          clear hfin FE
          go_wp2
          go_round
          case rel=>exact ⟨b + 1,by omega,by omega,by go_num,hst⟩
          case measure=>simp [intOf]; omega
        ·obtain ⟨hnx,hkb'⟩:=hfin (fun h=>absurd h hbl)
         clear hfin
         go_wp2
         go_roundw
         case rel=>exact ⟨b,line,acc,rfl,rfl,hnx,hown,hbel⟩
         case measure=>simp [intOf]; omega
      ·have hok:=fun h4=>hsp.tok hlt' h10 hbl hp h4
       have nY:=fun h4=>hsp.err hlt' h10 hbl hp h4
       clear h10 hget hbl hp
       have EP:=hbel.size
       have hacc:acc.length≤4096:=by have:=hsp.2.2.1; omega
       have hc3:acc.length + 1≤maxLen:=by unfold maxLen; omega
       have hc4:(acc.length + 1) * 32≤140737488355328:=by omega
       cases hL:Tk.rY s[k]
       ·have l1:Tk.mU (s[k].toNat:Int)=false:=hL
        cases hD:Tk.eF s[k]
        ·have l2:Tk.jF (s[k].toNat:Int)=false:=hD
         have hf:=Nq s k hlt hL hD
         clear hL hD
         have hgz:(Ag s k).size=(Tk.gX (s.data.toList.drop k)).length:=Lib.size_mk _
         cases hE:(Ag s k).toList.isEmpty
         ·rw [hE,if_neg (by decide)] at hf
          rw [hf] at hok
          obtain ⟨hnx,htl⟩:=hok rfl
          simp only [] at hnx htl
          rw [← hgz] at hnx htl
          have hle:k + (Ag s k).size≤s.size:=by have:=hnx.1; rw [← Lib.size_eq] at this; exact this
          have EX:Hid (Ag s k=⟨(Tk.gX (s.data.toList.drop k)).toArray⟩):=Lib.hid rfl
          clear hf hok nY hgz
          obtain ⟨wo,rfl⟩: ∃wo:World,wo=wr:=⟨_,rfl⟩
          rcases Hz with p1 | ⟨p1,p2⟩ | ⟨p1,hk1,p2⟩
          all_goals
           go_wp2_with (first | (go_at_call 73; refine (rP _ _).mono ?_; rintro e w' ⟨rfl,rfl⟩) | (go_at_call 78; refine (lM _ _).mono ?_; rintro e w' ⟨rfl,rfl⟩))
           refine (K3 _ _ _ (by omega) hk).mono ?_
           rintro e w1 ⟨rfl,hb1⟩
           have hz:=hb1.size
           have hown1:=own_below hown hb1
           have og:=hown1.alloc (.cells #[.int .i64 4,.string (Ag s k),.int .i64 line] 112)
           have sW:=(hbel.trans (hb1.mono EP)).alloc (by omega) (.cells #[.int .i64 4,.string (Ag s k),.int .i64 line] 112)
           have xL:w.heap.size≤(w1.alloc (.cells #[.int .i64 4,.string (Ag s k),.int .i64 line] 112)).heap.size:=by simp; omega
           go_wp2_with (at_builtin; refine wpList_append_own _ rfl _ _ 71 rfl w.heap.size 112 i0 _ 3 32 Tryz.underlying71 hi hz0 hz1 hz2 rfl (by decide) _ _ _ rfl og ⟨w1.heap.size,0,none⟩ 1 1 [.int .i64 4,.string (Ag s k),.int .i64 line] rfl rfl (I5 rfl _ _ _ _) (MX _ _ _) hc3 hc4 xL ?_; intro v' w2 hown2 hgrow2 _)
           have uQ:=rF og sW xL hgrow2
           have hown3:=zM EX.out hown2
           clear hown2 hgrow2 og sW xL hown1 hown hb1 hbel hi hz0 hz1 hz2 hc3 hc4
           go_wp2
           go_roundw
           case rel=>exact ⟨k + (Ag s k).size,line,_,by go_num,rfl,hnx,hown3,uQ⟩
           case measure=>simp [intOf]; omega
         ·rw [hE,if_pos rfl] at hf
          rw [hf] at nY
          have HR:=Lib.hid (nY (by decide))
          clear hf hok nY hgz
          obtain ⟨wo,rfl⟩: ∃wo:World,wo=wr:=⟨_,rfl⟩
          rcases Hz with p1 | ⟨p1,p2⟩ | ⟨p1,hk1,p2⟩
          all_goals
           go_wp2_with (first | (go_at_call 73; refine (rP _ _).mono ?_; rintro e w' ⟨rfl,rfl⟩) | (go_at_call 78; refine (lM _ _).mono ?_; rintro e w' ⟨rfl,rfl⟩))
           refine (K3 _ _ _ (by omega) hk).mono ?_
           rintro e w1 ⟨rfl,hb1⟩
           go_wp2
           go_ret3
           rw [HR.out]
           exact ⟨_,rfl,World.ownsRow_nil _ _ _ _,hbel.trans (hb1.mono EP)⟩
        ·have l2:Tk.jF (s[k].toNat:Int)=true:=hD
         have l3:=Om _ l2
         have hfn:=fun b h1 h2 h=>PE s k b hlt h1 h2 hL hD h
         clear Hz hL
         have hn0:=(rC.start Tk.eF s k).step hlt hD
         have Y9:=rC.start Tk.eF s k
         obtain ⟨wo,rfl⟩: ∃wo:World,wo=wr:=⟨_,rfl⟩
         go_wp2_with (first | (go_at_call 73; refine (rP _ _).mono ?_; rintro e w' ⟨rfl,rfl⟩) | (go_at_call 78; refine (lM _ _).mono ?_; rintro e w' ⟨rfl,rfl⟩))
         go_loop [9] (fun i=> ∃b:Nat,k≤b∧b≤s.size∧i= .int .i64 b∧rC Tk.eF s k b) (fun i=>s.size - (intOf i).toNat)
         case atStart=>exact ⟨k,Nat.le_refl _,by omega,rfl,Y9⟩
         case round=>
          obtain ⟨b,hkb,hbs,rfl,hno⟩:=hrel
          clear hn0 Y9
          by_cases hc: ∃h:b < s.size,Tk.eF s[b]=true
          ·obtain ⟨hbl,hi1⟩:=hc
           have hi2:Tk.jF (s[b].toNat:Int)=true:=hi1
           have hst:=hno.step hbl hi1
           clear hi1 hfn hok nY hD
           go_wp2_with (go_at_call 78; refine (lM _ _).mono ?_; rintro e w' ⟨rfl,rfl⟩)
           go_round
           case rel=>exact ⟨b + 1,by omega,by omega,by go_num,hst⟩
           case measure=>simp [intOf]; omega
          ·have hkb':k < b:=by
            rcases Nat.lt_or_ge k b with h | h
            ·exact h
            ·obtain rfl:b=k:=by omega
             exact absurd ⟨hlt,hD⟩ hc
           have hlen:=hno.len hkb hbs (fun h=>by rw [Bool.eq_false_iff]; exact fun e=>hc ⟨h,e⟩)
           have EX:=Lib.hid (rC.text hlen)
           have hxs:(s.extract k b).size≤maxLen:=by unfold maxLen; simp; omega
           have hnD: ∀h:b < s.size,Tk.jF (s[b].toNat:Int)=false:=fun h=>by
            show Tk.eF s[b]=false
            rw [Bool.eq_false_iff]; exact fun e=>hc ⟨h,e⟩
           rcases hfn b hbs hkb' hlen with ⟨hcase,hf⟩ | ⟨⟨hN,hI⟩,hf⟩
           ·rw [hf] at nY
            have HR:=Lib.hid (nY (by decide))
            clear hfn hok nY hf hlen hc hD
            have go: ∀Z:Prop,(uz (s.extract k b)=false→(hbl:b < s.size)→Tk.jF (s[b].toNat:Int)=false→Z)→(uz (s.extract k b)=false→ ¬ b < s.size→Z)→(uz (s.extract k b)=true→(hbl:b < s.size)→Tk.jF (s[b].toNat:Int)=false→Tk.Bb (s[b].toNat:Int)=true→Z)→Z:=by
             intro Z h1 h2 h3
             rcases hcase with hN | ⟨hN,hbl,hI⟩
             ·by_cases hbl:b < s.size
              ·exact h1 hN hbl (hnD hbl)
              ·exact h2 hN hbl
             ·exact h3 hN hbl (hnD hbl) hI
            clear hcase hnD
            refine go _ (fun hN hbl t4=> ?_) (fun hN hbl=> ?_) (fun hN hbl t4 t5=> ?_)
            all_goals
             clear go
             go_wp2_with (first | (go_at_call 78; refine (lM _ _).mono ?_; rintro e w' ⟨rfl,rfl⟩) | (go_at_call 79; refine (Jl _ _ hxs).mono ?_; rintro e w' ⟨rfl,rfl⟩) | (go_at_call 75; refine (qG _ _).mono ?_; rintro e w' ⟨rfl,rfl⟩))
             go_ret3
             rw [HR.out]
             exact ⟨_,rfl,World.ownsRow_nil _ _ _ _,hbel⟩
           ·rw [hf] at hok
            obtain ⟨hnx,htl⟩:=hok rfl
            simp only [hlen] at hnx htl
            rw [show k + (b - k)=b from by omega] at hnx
            clear hfn hok nY hf hlen hc hD
            have go: ∀Z:Prop,((hbl:b < s.size)→Tk.jF (s[b].toNat:Int)=false→Tk.Bb (s[b].toNat:Int)=false→Z)→(¬ b < s.size→Z)→Z:=by
             intro Z h1 h2
             by_cases hbl:b < s.size
             ·exact h1 hbl (hnD hbl) (hI hbl)
             ·exact h2 hbl
            clear hI hnD
            have og:=hown.alloc (.cells #[.int .i64 2,.string (s.extract k b),.int .i64 line] 112)
            have sW:=hbel.alloc EP (.cells #[.int .i64 2,.string (s.extract k b),.int .i64 line] 112)
            have xL:w.heap.size≤(wo.alloc (.cells #[.int .i64 2,.string (s.extract k b),.int .i64 line] 112)).heap.size:=by simp; omega
            refine go _ (fun hbl t4 t5=> ?_) (fun hbl=> ?_)
            all_goals
             clear go
             go_wp2_with (first | (go_at_call 78; refine (lM _ _).mono ?_; rintro e w' ⟨rfl,rfl⟩) | (go_at_call 79; refine (Jl _ _ hxs).mono ?_; rintro e w' ⟨rfl,rfl⟩) | (go_at_call 75; refine (qG _ _).mono ?_; rintro e w' ⟨rfl,rfl⟩) | (at_builtin; refine wpList_append_own _ rfl _ _ 71 rfl w.heap.size 112 i0 _ 3 32 Tryz.underlying71 hi hz0 hz1 hz2 rfl (by decide) _ _ _ rfl og ⟨wo.heap.size,0,none⟩ 1 1 [.int .i64 2,.string (s.extract k b),.int .i64 line] rfl rfl (I5 rfl _ _ _ _) (MX _ _ _) hc3 hc4 xL ?_; intro v' w2 hown2 hgrow2 _))
             have uQ:=rF og sW xL (by assumption)
             have hown3:=zM EX.out (by assumption)
             go_roundw
             case rel=>exact ⟨b,line,_,rfl,rfl,hnx,hown3,uQ⟩
             case measure=>simp [intOf]; omega
       ·have l1:Tk.mU (s[k].toNat:Int)=true:=hL
        have l2:=Oy _ l1
        have hfw:=fun b h=>NU s k b hlt hL h
        clear Hz
        have hn0:=rC.start Tk.gK s k
        obtain ⟨wo,rfl⟩: ∃wo:World,wo=wr:=⟨_,rfl⟩
        go_wp2_with (go_at_call 73; refine (rP _ _).mono ?_; rintro e w' ⟨rfl,rfl⟩)
        go_loop [9] (fun i=> ∃b:Nat,k≤b∧b≤s.size∧i= .int .i64 b∧rC Tk.gK s k b) (fun i=>s.size - (intOf i).toNat)
        case atStart=>exact ⟨k,Nat.le_refl _,by omega,rfl,hn0⟩
        case round=>
         obtain ⟨b,hkb,hbs,rfl,hno⟩:=hrel
         by_cases hc: ∃h:b < s.size,Tk.gK s[b]=true
         ·obtain ⟨hbl,hi1⟩:=hc
          have hi2:Tk.Bb (s[b].toNat:Int)=true:=hi1
          have hst:=hno.step hbl hi1
          clear hi1 hfw hok nY
          go_wp2_with (go_at_call 75; refine (qG _ _).mono ?_; rintro e w' ⟨rfl,rfl⟩)
          go_round
          case rel=>exact ⟨b + 1,by omega,by omega,by go_num,hst⟩
          case measure=>simp [intOf]; omega
         ·have hlen:=hno.len hkb hbs (fun h=>by rw [Bool.eq_false_iff]; exact fun e=>hc ⟨h,e⟩)
          have hf:=hfw b hlen
          have EX:=Lib.hid (rC.text hlen)
          have go: ∀Z:Prop,((hbl:b < s.size)→Tk.Bb (s[b].toNat:Int)=false→Z)→(¬ b < s.size→Z)→Z:=by
           intro Z h1 h2
           by_cases hbl:b < s.size
           ·exact h1 hbl (by show Tk.gK s[b]=false; rw [Bool.eq_false_iff]; exact fun e=>hc ⟨hbl,e⟩)
           ·exact h2 hbl
          clear hc hfw
          by_cases h12:12 < b - k
          ·rw [if_pos h12] at hf
           rw [hf] at nY
           have HR:=Lib.hid (nY (by decide))
           clear hok nY hf hlen
           refine go _ (fun hbl t4=> ?_) (fun hbl=> ?_)
           all_goals
            clear go
            go_wp2_with (go_at_call 75; refine (qG _ _).mono ?_; rintro e w' ⟨rfl,rfl⟩)
            go_ret3
            rw [HR.out]
            exact ⟨_,rfl,World.ownsRow_nil _ _ _ _,hbel⟩
          ·rw [if_neg h12] at hf
           rw [hf] at hok
           obtain ⟨hnx,htl⟩:=hok rfl
           simp only [hlen] at hnx htl
           rw [show k + (b - k)=b from by omega] at hnx
           clear hok nY hf hlen
           cases hK:TT (s.extract k b)
           ·rw [hK,if_neg (by decide)] at hnx
            refine go _ (fun hbl t4=> ?_) (fun hbl=> ?_)
            all_goals
             clear go
             go_wp2_with (go_at_call 75; refine (qG _ _).mono ?_; rintro e w' ⟨rfl,rfl⟩)
             refine (yI _ _).mono ?_
             rintro e w1 ⟨rfl,hb1⟩
             obtain ⟨hc,hf⟩:=Hy hb1
             have hz:wo.heap.size < w1.heap.size:=by have:=hb1.size; simp at this; omega
             have hown1:=own_below (hown.alloc (.cells #[.int .i64 1,.string (s.extract k b),.int .i64 line] 112)) hb1
             have og:=hown1.alloc (.cells #[.int .i64 1,.string (s.extract k b),.int .i64 line] 112)
             have sW:=((hbel.alloc EP (.cells #[.int .i64 1,.string (s.extract k b),.int .i64 line] 112)).trans (hb1.mono (by simp; omega))).alloc (by omega) (.cells #[.int .i64 1,.string (s.extract k b),.int .i64 line] 112)
             have xL:w.heap.size≤(w1.alloc (.cells #[.int .i64 1,.string (s.extract k b),.int .i64 line] 112)).heap.size:=by simp; omega
             go_wp2_with (at_builtin; refine wpList_append_own _ rfl _ _ 71 rfl w.heap.size 112 i0 _ 3 32 Tryz.underlying71 hi hz0 hz1 hz2 rfl (by decide) _ _ _ rfl og ⟨w1.heap.size,0,none⟩ 1 1 [.int .i64 1,.string (s.extract k b),.int .i64 line] rfl rfl (I5 rfl _ _ _ _) (MX _ _ _) hc3 hc4 xL ?_; intro v' w2 hown2 hgrow2 _)
             have uQ:=rF og sW xL hgrow2
             have hown3:=zM EX.out hown2
             clear hown2 hgrow2 og sW xL hown1 hown hb1 hbel hi hz0 hz1 hz2 hc hf hc3 hc4
             go_wp2
             go_roundw
             case rel=>exact ⟨b,line,_,rfl,rfl,hnx,hown3,uQ⟩
             case measure=>simp [intOf]; omega
           ·rw [hK,if_pos rfl] at hnx
            refine go _ (fun hbl t4=> ?_) (fun hbl=> ?_)
            all_goals
             clear go
             go_wp2_with (go_at_call 75; refine (qG _ _).mono ?_; rintro e w' ⟨rfl,rfl⟩)
             refine (yI _ _).mono ?_
             rintro e w1 ⟨rfl,hb1⟩
             obtain ⟨hc,hf⟩:=Hy hb1
             have hz:wo.heap.size < w1.heap.size:=by have:=hb1.size; simp at this; omega
             have hown1:=own_below (hown.alloc (.cells #[.int .i64 1,.string (s.extract k b),.int .i64 line] 112)) hb1
             have og:=(Wn hown1 hown 0 (.int .i64 3)).alloc (.cells #[.int .i64 3,.string (s.extract k b),.int .i64 line] 112)
             have hzs:=size_set w1 ⟨wo.heap.size,0,none⟩ (.int .i64 3)
             have sW:=(((hbel.alloc EP (.cells #[.int .i64 1,.string (s.extract k b),.int .i64 line] 112)).trans (hb1.mono (by simp; omega))).setCell (p:=⟨wo.heap.size,0,none⟩) EP (.int .i64 3)).alloc (by omega) (.cells #[.int .i64 3,.string (s.extract k b),.int .i64 line] 112)
             have xL:w.heap.size≤((w1.setCell ⟨wo.heap.size,0,none⟩ (.int .i64 3)).alloc (.cells #[.int .i64 3,.string (s.extract k b),.int .i64 line] 112)).heap.size:=by simp; omega
             have hnews:=I5 hzs 112 (.int .i64 3) (.string (s.extract k b)) (.int .i64 line)
             have HNW:=Lib.hid hnews
             clear hzs hnews
             go_wp2_with (at_builtin; refine wpList_append_own _ rfl _ _ 71 rfl w.heap.size 112 i0 _ 3 32 Tryz.underlying71 hi hz0 hz1 hz2 rfl (by decide) _ _ _ rfl og ⟨w1.heap.size,0,none⟩ 1 1 [.int .i64 3,.string (s.extract k b),.int .i64 line] rfl rfl HNW.out (MX _ _ _) hc3 hc4 xL ?_; intro v' w2 hown2 hgrow2 _)
             have uQ:=rF og sW xL hgrow2
             have hown3:=zM EX.out hown2
             clear hown2 hgrow2 og sW xL hown1 hown hb1 hbel hi hz0 hz1 hz2 hc hf hc3 hc4
             go_wp2
             go_roundw
             case rel=>exact ⟨b,line,_,rfl,rfl,hnx,hown3,uQ⟩
             case measure=>simp [intOf]; omega
   ·have hR:=Lib.hid (hsp.done (by rw [← Lib.size_eq]; exact hlt))
    go_wp2
    go_ret3
    rw [hR.out]
    exact ⟨_,rfl,hown,hbel⟩
end Go.Proofs.YtehnipchbmjlhaaGreatDoor
end
