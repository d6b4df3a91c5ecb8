/-
  Contracts of the reference's Signs and Number.
  Contract of the reference's signAt.
  Contract of the reference's Scan.
-/
import Derived.Test.YtehnipchbmjlhaaGreatDoorGSA
import Derived.Test.YtehnipchbmjlhaaGreatDoorGTC
section
namespace Go.Proofs.YtehnipchbmjlhaaGreatDoor
open Go.RowKit
def iI (k:Nat):ByteArray:=⟨(Tk.nP.getD k []).toArray⟩
def D8:List Value:=Tk.nP.map fun l=>Value.string ⟨l.toArray⟩
theorem Kl (k:Nat) (h:k < 23):D8[k]? =some (.string (iI k)):=by
 have hl:Tk.nP.length=23:=rfl
 unfold D8 iI
 rw [List.getElem?_map,List.getElem?_eq_getElem (by omega)]
 simp [h,hl]
set_option maxRecDepth 100000 in
theorem Qk (w:World):
 Calls Tryz.prog 117 #[] w fun e w'=>e= .returned (.slice (some ⟨w.heap.size,0,none⟩) 23 23)∧w.alloc (.cells D8.toArray 9)=w':=by
 go_enter Tryz.func117,Tryz.ntmps117
 go_wp2
 go_ret
 exact ⟨rfl,rfl⟩
def qY (l:List UInt8):Nat × Bool:=if l.all Tk.bW && Tk.jo l then (Tk.val l,!l.isEmpty) else (0,false)
theorem Jg (l:List UInt8) (c:UInt8):Tk.val (l++[c])=10 * Tk.val l + (c.toNat - 48):=by unfold Tk.val; rw [List.foldl_append]; rfl
theorem Mv (l m:List UInt8):Tk.val l≤Tk.val (l++m):=by
 have:=Tk.GD m (Tk.val l)
 unfold Tk.val at *
 rw [List.foldl_append,this]
 have h:List.foldl (fun n (c:UInt8)=>10 * n + (c.toNat - 48)) 0 l * 1≤List.foldl (fun n (c:UInt8)=>10 * n + (c.toNat - 48)) 0 l * 10 ^ m.length:=Nat.mul_le_mul_left _ (Nat.pow_pos (by omega))
 omega
def zn (s:ByteArray) (k n:Nat):Prop:=n=Tk.val (s.data.toList.take k)∧n≤9223372036854775807∧(s.data.toList.take k).all Tk.bW=true
theorem Ap (s:ByteArray) (k:Nat) (h:k < s.size):s.data.toList.take (k + 1)=s.data.toList.take k++[s[k]]:=by
 rw [List.take_succ_eq_append_getElem (by rw [← Lib.size_eq]; exact h)]; rfl
theorem zn.step {s:ByteArray} {k n:Nat} (h:zn s k n) (hk:k < s.size) (hd:Tk.bW s[k]=true) (hle:10 * n + (s[k].toNat - 48)≤9223372036854775807):zn s (k + 1) (10 * n + (s[k].toNat - 48)):=by
 obtain ⟨rfl,_,h3⟩:=h
 refine ⟨?_,hle,?_⟩
 ·rw [Ap s k hk,Jg]
 ·rw [Ap s k hk,List.all_append,h3]
  simp [hd]
theorem RN {s:ByteArray} {k n:Nat} (h:zn s k n) (hk:k < s.size) (hgt:9223372036854775807 < 10 * n + (s[k].toNat - 48)):qY s.data.toList=(0,false):=by
 have hv: ¬ Tk.val s.data.toList≤9223372036854775807:=by
  have:=Mv (s.data.toList.take (k + 1)) (s.data.toList.drop (k + 1))
  rw [List.take_append_drop,Ap s k hk,Jg,← h.1] at this
  omega
 unfold qY Tk.jo
 rw [decide_eq_false hv,Bool.and_false]
 rfl
theorem QV {s:ByteArray} {k:Nat} (hk:k < s.size) (hd:Tk.bW s[k]=false):qY s.data.toList=(0,false):=by
 have:s.data.toList.all Tk.bW=false:=by
  rw [List.all_eq_false]
  exact ⟨s[k],List.getElem_mem (by rw [← Lib.size_eq]; exact hk),by rw [hd]; decide⟩
 unfold qY
 rw [this]
 rfl
theorem Ot {s:ByteArray} {n:Nat} (h:zn s s.size n):qY s.data.toList=(n,decide (0 < s.size)):=by
 obtain ⟨h1,h2,h3⟩:=h
 rw [Lib.size_eq,List.take_length] at h1 h3
 unfold qY Tk.jo
 rw [h3,← h1,decide_eq_true h2]
 have:(!s.data.toList.isEmpty)=decide (0 < s.size):=by
  rw [Lib.size_eq]
  cases s.data.toList <;> simp
 rw [this]
 rfl
set_option maxHeartbeats 1000000 in
theorem Ec (s:ByteArray) (w:World) (hm:s.size≤maxLen):
 Calls Tryz.prog 79 #[.string s] w fun e w'=>e= .returned (.tuple #[.int .i64 (qY s.data.toList).1,.bool (qY s.data.toList).2])∧w=w':=by
 unfold maxLen at hm
 have hst:zn s 0 0:=⟨rfl,by omega,rfl⟩
 go_enter Tryz.func79,Tryz.ntmps79
 go_wp2
 go_loop [4,5] (fun v i=> ∃k n:Nat,k≤s.size∧i= .int .i64 k∧v= .int .i64 n∧zn s k n) (fun _ i=>s.size - (intOf i).toNat)
 case atStart=>exact ⟨0,0,Nat.zero_le _,rfl,rfl,hst⟩
 case round=>
  obtain ⟨k,n,hk,rfl,rfl,hat⟩:=hrel
  clear hst
  have hn:=hat.2.1
  by_cases hlt:k < s.size
  ·cases hd:Tk.bW s[k]
   ·have hd':Tk.iU (s[k].toNat:Int)=false:=hd
    have HF:=Lib.hid (QV hlt hd)
    clear hd
    go_wp2_with (go_at_call 78; refine (kG _ _).mono ?_; rintro e w' ⟨rfl,rfl⟩)
    go_ret2
    exact ⟨by rw [HF.out]; rfl,rfl⟩
   ·have hd':Tk.iU (s[k].toNat:Int)=true:=hd
    have hdd:=(Tk.rD _).1 hd
    have hst:=fun hle=>hat.step hlt hd hle
    have hbig:=fun hgt=>RN hat hlt hgt
    clear hd hat
    by_cases hgt:(9223372036854775807 - ((s[k].toNat:Int) - 48)) / 10 < (n:Int)
    ·have HF:=Lib.hid (hbig (by omega))
     clear hst hbig
     go_wp2_with (go_at_call 78; refine (kG _ _).mono ?_; rintro e w' ⟨rfl,rfl⟩)
     go_ret2
     exact ⟨by rw [HF.out]; rfl,rfl⟩
    ·have hst':=hst (by omega)
     clear hst hbig
     go_wp2_with (go_at_call 78; refine (kG _ _).mono ?_; rintro e w' ⟨rfl,rfl⟩)
     go_round
     case rel=>exact ⟨k + 1,_,by omega,by go_num,by go_num,hst'⟩
     case measure=>simp [intOf]; omega
  ·obtain rfl:k=s.size:=by omega
   have HT:=Lib.hid (Ot hat)
   go_wp2
   go_ret2
   exact ⟨by rw [HT.out]; rfl,rfl⟩
end Go.Proofs.YtehnipchbmjlhaaGreatDoor
end
section
namespace Go.Proofs.YtehnipchbmjlhaaGreatDoor
open Go.RowKit
def qN (k:Nat):List UInt8:=Tk.nP.getD k []
theorem Dq (k:Nat) (h:k < Tk.nP.length):qN k=Tk.nP[k]:=by unfold qN; simp [h]
theorem KC (k:Nat):(iI k).toList=qN k:=by unfold iI; rw [Lib.toList_data]; rfl
theorem AU (k:Nat):(iI k).size=(qN k).length:=by unfold iI; exact Lib.size_mk _
theorem QO (k:Nat) (h:k < 23):1≤(iI k).size∧(iI k).size≤2:=by
 rw [AU,Dq k h]
 have: ∀g ∈ Tk.nP,1≤g.length∧g.length≤2:=by decide
 exact this _ (List.getElem_mem _)
def EZ (l:List UInt8) (k:Nat):Prop:= ∀j < k,(qN j).isPrefixOf l=false
theorem EZ.step {l:List UInt8} {k:Nat} (h:EZ l k) (hk:(qN k).isPrefixOf l=false):EZ l (k + 1):=by
 intro j hj
 by_cases e:j=k
 ·subst e; exact hk
 ·exact h j (by omega)
theorem Ll (l:List UInt8): ∀(gs:List (List UInt8)) (k:Nat) (hk:k < gs.length),(∀j (h:j < gs.length),j < k→gs[j].isPrefixOf l=false)→gs[k].isPrefixOf l=true→(gs.find? fun g=>g.isPrefixOf l)=some gs[k]
 | [],k,hk,_,_=>by simp at hk
 | g ::gs,0,_,_,h=>by
   simp only [List.getElem_cons_zero] at h ⊢
   rw [List.find?_cons,h]
 | g ::gs,k + 1,hk,hno,h=>by
   have h0:=hno 0 (by simp) (by omega)
   simp only [List.getElem_cons_zero] at h0
   rw [List.find?_cons,h0]
   simp only [List.getElem_cons_succ] at h ⊢
   exact Ll l gs k (by simpa using hk) (fun j hj hjk=>by
    have:=hno (j + 1) (by simpa using hj) (by omega)
    simpa using this) h
theorem Vw (l:List UInt8) (k:Nat) (hk:k < 23) (hno:EZ l k) (h:(qN k).isPrefixOf l=true):Tk.eX l=qN k:=by
 unfold Tk.eX
 rw [Dq k hk] at h ⊢
 rw [Ll l Tk.nP k hk (fun j hj hjk=>by have:=hno j hjk; rw [Dq j hj] at this; exact this) h]
 rfl
theorem O9 (l:List UInt8) (hno:EZ l 23):Tk.eX l=[]:=by
 unfold Tk.eX
 have:(Tk.nP.find? fun g=>g.isPrefixOf l)=none:=by
  rw [List.find?_eq_none]
  intro g hg
  obtain ⟨j,hj,rfl⟩:=List.getElem_of_mem hg
  have:=hno j hj
  rw [Dq j hj] at this
  rw [this]
  decide
 rw [this]
 rfl
theorem Rj (s:ByteArray) (i k:Nat) (hi:i≤s.size):((qN k).isPrefixOf (s.data.toList.drop i)=true∧i + (iI k).size≤s.size∧((s.extract i (i + (iI k).size)).toList == qN k)=true)∨
 ((qN k).isPrefixOf (s.data.toList.drop i)=false∧i + (iI k).size≤s.size∧((s.extract i (i + (iI k).size)).toList == qN k)=false)∨
 ((qN k).isPrefixOf (s.data.toList.drop i)=false∧ ¬ i + (iI k).size≤s.size):=by
 have e:(s.extract i (i + (iI k).size)).toList=(s.data.toList.drop i).take (qN k).length:=by
  rw [Lib.extract_toList,AU]
  congr 1
  omega
 rw [e,AU]
 cases hp:(qN k).isPrefixOf (s.data.toList.drop i)
 ·by_cases hle:i + (qN k).length≤s.size
  ·right; left
   refine ⟨rfl,hle,?_⟩
   rw [beq_eq_false_iff_ne]
   intro h
   have:(qN k).isPrefixOf (s.data.toList.drop i)=true:=List.isPrefixOf_iff_prefix.2 (h ▸ List.take_prefix _ _)
   rw [hp] at this
   cases this
  ·right; right; exact ⟨rfl,hle⟩
 ·left
  obtain ⟨r,hr⟩:=List.isPrefixOf_iff_prefix.1 hp
  refine ⟨rfl,?_,?_⟩
  ·have:=congrArg List.length hr
   rw [List.length_append,List.length_drop,← Lib.size_eq] at this
   omega
  ·rw [← hr,beq_iff_eq]; simp
set_option maxHeartbeats 1000000 in
theorem NI (s:ByteArray) (i:Nat) (w:World) (hs:s.size≤5000) (hi:i≤s.size):
 Calls Tryz.prog 80 #[.string s,.int .i64 i] w fun e w'=>e= .returned (.string ⟨(Tk.eX (s.data.toList.drop i)).toArray⟩)∧Below w.heap.size w w':=by
 go_enter Tryz.func80,Tryz.ntmps80
 go_wp2_with fail
 refine (Qk _).mono ?_
 rintro e w1 ⟨rfl,hw⟩
 have hcell: ∀k,k < 23→w1.cell? ⟨w.heap.size,k,none⟩=some (.string (iI k)):=fun k hk=>by
  rw [← hw,AX,Kl k hk]
 have HB:Hid (∀m,Below w.heap.size w (w1.drewN m)):=Lib.hid (fun m=>below_drewN (by rw [← hw]; exact (Below.refl _ _).alloc (Nat.le_refl _) _) m)
 have HC:=Lib.hid hcell
 clear hw hcell
 go_wp2
 go_loopw [6] (fun v wr=> ∃k m:Nat,k≤23∧v= .int .i64 k∧EZ (s.data.toList.drop i) k∧wr=w1.drewN m) (fun v _=>23 - (intOf v).toNat)
 case atStart=>exact ⟨0,0,Nat.zero_le _,rfl,fun j hj=>absurd hj (by omega),rfl⟩
 case round=>
  obtain ⟨k,m,hk,rfl,hno,rfl⟩:=hrel
  by_cases hlt:k < 23
  ·have hix:=HC.out k hlt
   have hat:=KC k
   obtain ⟨z1,z2⟩:=QO k hlt
   rcases Rj s i k hi with ⟨hp,hle,he⟩ | ⟨hp,hle,he⟩ | ⟨hp,hle⟩
   ·have HS:Hid (iI k=⟨(Tk.eX (s.data.toList.drop i)).toArray⟩):=Lib.hid (by rw [Vw _ k hlt hno hp]; rfl)
    have q1:decide (((iI k).size:Int)≤(s.size:Int) - (i:Int))=true:=by simp; omega
    have q2:IntKind.i64.wrap ((s.size:Int) - (i:Int))=(s.size:Int) - (i:Int):=IntWalk.i64_in _ (by omega)
    have q3:IntKind.i64.wrap ((i:Int) + ((iI k).size:Int))=(i:Int) + ((iI k).size:Int):=IntWalk.i64_in _ (by omega)
    have q4:((i:Int) + ((iI k).size:Int)).toNat=i + (iI k).size:=by omega
    have q5:0≤(i:Int) + ((iI k).size:Int):=by omega
    have q6:(i:Int)≤(i:Int) + ((iI k).size:Int):=by omega
    have q7:(i:Int) + ((iI k).size:Int)≤(s.size:Int):=by omega
    clear hp hno
    go_wp2
    go_quiet (fail)
    clear q1 q2 q3 q4 q5 q6 q7
    go_wp2
    go_ret
    refine ⟨congrArg (fun x=>Ending.returned (.string x)) HS.out,?_⟩
    first | exact HB.out _ | (rw [World.drewN_drewN]; exact HB.out _)
   ·have hst:=hno.step hp
    have q1:decide (((iI k).size:Int)≤(s.size:Int) - (i:Int))=true:=by simp; omega
    have q2:IntKind.i64.wrap ((s.size:Int) - (i:Int))=(s.size:Int) - (i:Int):=IntWalk.i64_in _ (by omega)
    have q3:IntKind.i64.wrap ((i:Int) + ((iI k).size:Int))=(i:Int) + ((iI k).size:Int):=IntWalk.i64_in _ (by omega)
    have q4:((i:Int) + ((iI k).size:Int)).toNat=i + (iI k).size:=by omega
    have q5:0≤(i:Int) + ((iI k).size:Int):=by omega
    have q6:(i:Int)≤(i:Int) + ((iI k).size:Int):=by omega
    have q7:(i:Int) + ((iI k).size:Int)≤(s.size:Int):=by omega
    clear hp hno
    go_wp2
    go_quiet (fail)
    clear q1 q2 q3 q4 q5 q6 q7
    go_wp2
    go_roundw
    case rel=>exact ⟨k + 1,_,by omega,by go_num,hst,rfl⟩
    case measure=>simp [intOf]; omega
   ·have hst:=hno.step hp
    have q1:decide (((iI k).size:Int)≤(s.size:Int) - (i:Int))=false:=by simp; omega
    have q2:IntKind.i64.wrap ((s.size:Int) - (i:Int))=(s.size:Int) - (i:Int):=IntWalk.i64_in _ (by omega)
    clear hp hno
    go_wp2
    go_quiet (fail)
    clear q1 q2
    go_wp2
    go_roundw
    case rel=>exact ⟨k + 1,_,by omega,by go_num,hst,rfl⟩
    case measure=>simp [intOf]; omega
  ·obtain rfl:k=23:=by omega
   have HT:Hid (Tk.eX (s.data.toList.drop i)=[]):=Lib.hid (O9 _ hno)
   clear hno
   go_wp2
   go_ret
   exact ⟨by rw [HT.out]; rfl,HB.out m⟩
end Go.Proofs.YtehnipchbmjlhaaGreatDoor
end
section
namespace Go.Proofs.YtehnipchbmjlhaaGreatDoor
open Go.RowKit
theorem KI (s:ByteArray) (k:Nat) (hk:k < s.size):
 ([47,47].isPrefixOf (s.data.toList.drop k)=true∧((s[k].toNat:Int) == 47)=true∧ ∃h:k + 1 < s.size,((s[k + 1].toNat:Int) == 47)=true)∨
 ([47,47].isPrefixOf (s.data.toList.drop k)=false∧(((s[k].toNat:Int) == 47)=false∨(((s[k].toNat:Int) == 47)=true∧ ¬ k + 1 < s.size)∨(((s[k].toNat:Int) == 47)=true∧ ∃h:k + 1 < s.size,((s[k + 1].toNat:Int) == 47)=false))):=by
 have hb: ∀c:UInt8,((c.toNat:Int) == 47)=(47 == c):=by
  intro c
  rw [Bool.eq_iff_iff,beq_iff_eq,beq_iff_eq]
  constructor
  ·intro h; exact (UInt8.toNat_inj.1 (by rw [show c.toNat=47 from by omega]; rfl)).symm
  ·rintro rfl; rfl
 have hk':k < s.data.toList.length:=by rw [← Lib.size_eq]; exact hk
 rw [List.drop_eq_getElem_cons hk',yZ s k hk',hb]
 by_cases h1:k + 1 < s.size
 ·have h1':k + 1 < s.data.toList.length:=by rw [← Lib.size_eq]; exact h1
  rw [List.drop_eq_getElem_cons h1',yZ s (k + 1) h1']
  have e:[47,47].isPrefixOf (s[k] ::s[k + 1] ::s.data.toList.drop (k + 1 + 1))=((47 == s[k]) && ((47 == s[k + 1]) && true)):=by simp [List.isPrefixOf]
  rw [e]
  cases h2:(47 == s[k])
  ·right; exact ⟨rfl,.inl rfl⟩
  ·cases h3:(47 == s[k + 1])
   ·right; exact ⟨rfl,.inr (.inr ⟨rfl,h1,by rw [hb]; exact h3⟩)⟩
   ·left; exact ⟨rfl,rfl,h1,by rw [hb]; exact h3⟩
 ·have e:s.data.toList.drop (k + 1)=[]:=List.drop_of_length_le (by rw [← Lib.size_eq]; omega)
  rw [e]
  right
  refine ⟨by simp [List.isPrefixOf],?_⟩
  cases h2:(47 == s[k])
  ·exact .inl rfl
  ·exact .inr (.inl ⟨rfl,h1⟩)
def qo (p:UInt8→Bool) (s:ByteArray) (a b:Nat):Prop:= ∀j (h:j < s.size),a≤j→j < b→p s[j]=true
theorem qo.start (p:UInt8→Bool) (s:ByteArray) (a:Nat):qo p s a a:=fun j _ h1 h2=>absurd h1 (by omega)
theorem qo.step {p:UInt8→Bool} {s:ByteArray} {a b:Nat} (h:qo p s a b) (hb:b < s.size) (he:p s[b]=true):qo p s a (b + 1):=by
 intro j hj h1 h2
 by_cases e:j=b
 ·subst e; exact he
 ·exact h j hj h1 (by omega)
theorem qo.len {p:UInt8→Bool} {s:ByteArray} {a b:Nat} (h:qo p s a b) (hab:a≤b) (hb:b≤s.size) (he: ∀h:b < s.size,p s[b]=false):((s.data.toList.drop a).takeWhile p).length=b - a:=by
 refine Tk.tK p _ (b - a) (by rw [List.length_drop,← Lib.size_eq]; omega) (fun j hj hjk=> ?_) (fun hj=> ?_)
 ·rw [List.getElem_drop]
  exact h (a + j) (by rw [List.length_drop,← Lib.size_eq] at hj; omega) (by omega) (by omega)
 ·rw [List.getElem_drop]
  have e:a + (b - a)=b:=by omega
  have hh:=he (by rw [List.length_drop,← Lib.size_eq] at hj; omega)
  simp only [e]
  exact hh
theorem qo.text {p:UInt8→Bool} {s:ByteArray} {a b:Nat} (h:((s.data.toList.drop a).takeWhile p).length=b - a):s.extract a b=⟨((s.data.toList.drop a).takeWhile p).toArray⟩:=by
 rw [Lib.extract_eq,← h,Tk.take_takeWhile]
theorem ZX (c:UInt8):((c.toNat:Int) != 10)=(c != 10):=by
 rw [Bool.eq_iff_iff,bne_iff_ne,bne_iff_ne]
 constructor
 ·intro h e; exact h (by rw [e]; rfl)
 ·intro h e; exact h (UInt8.toNat_inj.1 (by rw [show c.toNat=10 from by omega]; rfl))
def Tq (s:ByteArray):Bool:=Tk.jB s.data.toList
def tC (s:ByteArray):Bool:=(qY s.data.toList).2
def al8 (s:ByteArray):Nat:=(qY s.data.toList).1
def zQ (s:ByteArray) (k:Nat):ByteArray:=⟨(Tk.eX (s.data.toList.drop k)).toArray⟩
theorem yD (s:ByteArray) (w:World):
 Calls Tryz.prog 74 #[.string s] w fun e w'=>e= .returned (.bool (Tq s))∧Below w.heap.size w w':=CZ s w
theorem Jr (s:ByteArray) (w:World) (hm:s.size≤maxLen):
 Calls Tryz.prog 79 #[.string s] w fun e w'=>e= .returned (.tuple #[.int .i64 (al8 s),.bool (tC s)])∧w=w':=Ec s w hm
theorem Jb (s:ByteArray) (i:Nat) (w:World) (hs:s.size≤5000) (hi:i≤s.size):
 Calls Tryz.prog 80 #[.string s,.int .i64 i] w fun e w'=>e= .returned (.string (zQ s i))∧Below w.heap.size w w':=NI s i w hs hi
theorem head_drop (s:ByteArray) (k:Nat) (hk:k < s.size):(s.data.toList.drop k).headD 0=s[k]:=by
 rw [List.drop_eq_getElem_cons (by rw [← Lib.size_eq]; exact hk)]; rfl
theorem uh (s:ByteArray) (k b:Nat) (hk:k < s.size) (hL:Tk.lK s[k]=true) (h:((s.data.toList.drop k).takeWhile Tk.dP).length=b - k):
 Tk.first (s.data.toList.drop k)=if 12 < b - k then (2,0,[]) else (0,if Tq (s.extract k b) then 3 else 1,(s.data.toList.drop k).takeWhile Tk.dP):=by
 unfold Tk.first Tk.jU Tq
 rw [head_drop s k hk,if_pos hL,h,qo.text h]
theorem OL (s:ByteArray) (k b:Nat) (hk:k < s.size) (_hb:b≤s.size) (hkb:k < b) (hL:Tk.lK s[k]=false) (hD:Tk.bW s[k]=true) (h:((s.data.toList.drop k).takeWhile Tk.bW).length=b - k):
 ((tC (s.extract k b)=false∨(tC (s.extract k b)=true∧ ∃hlt:b < s.size,Tk.dP s[b]=true))∧Tk.first (s.data.toList.drop k)=(3,0,[]))∨
 ((tC (s.extract k b)=true∧ ∀hlt:b < s.size,Tk.dP s[b]=false)∧Tk.first (s.data.toList.drop k)=(0,2,(s.data.toList.drop k).takeWhile Tk.bW)):=by
 have hall:=vQ Tk.bW (s.data.toList.drop k)
 have hne:((s.data.toList.drop k).takeWhile Tk.bW).isEmpty=false:=by
  cases hc:(s.data.toList.drop k).takeWhile Tk.bW with
  | nil=>rw [hc] at h; simp at h; omega
  | cons a r=>rfl
 have hB:tC (s.extract k b)=Tk.jo ((s.data.toList.drop k).takeWhile Tk.bW):=by
  unfold tC qY
  rw [qo.text h]
  show (if (((s.data.toList.drop k).takeWhile Tk.bW).all Tk.bW && Tk.jo ((s.data.toList.drop k).takeWhile Tk.bW))=true then (Tk.val ((s.data.toList.drop k).takeWhile Tk.bW),!((s.data.toList.drop k).takeWhile Tk.bW).isEmpty) else (0,false)).2=_
  rw [hall,hne,Bool.true_and]
  cases Tk.jo ((s.data.toList.drop k).takeWhile Tk.bW) <;> rfl
 have hdw:((s.data.toList.drop k).dropWhile Tk.bW)=s.data.toList.drop b:=by
  rw [← Tk.mg,h,List.drop_drop]; congr 1; omega
 have hf:Tk.first (s.data.toList.drop k)=if ((s.data.toList.drop b).head?.any Tk.dP) || !tC (s.extract k b) then (3,0,[]) else (0,2,(s.data.toList.drop k).takeWhile Tk.bW):=by
  unfold Tk.first Tk.nV
  rw [head_drop s k hk,hL,hD,hdw,hB]
  rfl
 rw [hf]
 by_cases hlt:b < s.size
 ·have e:(s.data.toList.drop b).head?.any Tk.dP=Tk.dP s[b]:=by
   rw [List.drop_eq_getElem_cons (by rw [← Lib.size_eq]; exact hlt)]; rfl
  rw [e]
  cases hn:tC (s.extract k b)
  ·left; exact ⟨.inl rfl,by simp⟩
  ·cases hi:Tk.dP s[b]
   ·right; exact ⟨⟨rfl,fun _=>hi⟩,by simp⟩
   ·left; exact ⟨.inr ⟨rfl,hlt,hi⟩,by simp⟩
 ·have e:s.data.toList.drop b=[]:=List.drop_of_length_le (by rw [← Lib.size_eq]; omega)
  rw [e]
  cases hn:tC (s.extract k b)
  ·left; exact ⟨.inl rfl,by simp⟩
  ·right; exact ⟨⟨rfl,fun h=>absurd h hlt⟩,by simp⟩
theorem Ms (s:ByteArray) (k:Nat) (hk:k < s.size) (hL:Tk.lK s[k]=false) (hD:Tk.bW s[k]=false):
 Tk.first (s.data.toList.drop k)=if (zQ s k).toList.isEmpty then (3,0,[]) else (0,4,Tk.eX (s.data.toList.drop k)):=by
 unfold Tk.first Tk.qy zQ
 rw [head_drop s k hk,hL,hD,Lib.toList_data]
 rfl
theorem O1 (c:Int) (h:Tk.lU c=true):(c == 47)=false:=by
 rw [beq_eq_false_iff_ne]; rintro rfl; revert h; decide
theorem NS (c:Int) (h:Tk.iU c=true):(c == 47)=false:=by
 rw [beq_eq_false_iff_ne]; rintro rfl; revert h; decide
theorem He {x:World} {g:Nat} (hz:x.heap.size=g) (t:TypeId) (a b c:Value): ∀j u,[a,b,c][j]? =some u→(x.alloc (.cells #[a,b,c] t)).cell? ((⟨g,0,none⟩:Addr).add j)=some u:=by
 subst hz
 intro j u hj
 match j,hj with
 | 0,hj=>simp at hj; subst hj; simp [Addr.add]
 | 1,hj=>simp at hj; subst hj; simp [Addr.add]
 | 2,hj=>simp at hj; subst hj; simp [Addr.add]
theorem Ng (a:Int) (b:ByteArray) (c:Int): ∀u ∈ [Value.int .i64 a,.string b,.int .i64 c],u.oneCell'=true:=by
 intro u hu; simp at hu; rcases hu with rfl | rfl | rfl <;> rfl
theorem size_set (w:World) (p:Addr) (u:Value):(w.setCell p u).heap.size=w.heap.size:=by simp [World.setCell]
theorem yV {x:World} {B:Nat} {e:TypeId} {v:Value} {acc:List Tk.Tok} {kind line:Nat} {text:List UInt8} {b:ByteArray} (hb:b=⟨text.toArray⟩)
 (h:x.ownsRow B e 3 v (acc.length + 1) (Tk.cellsOf acc++[.int .i64 kind,.string b,.int .i64 line])):x.ownsRow B e 3 v (acc++[(⟨kind,text,line⟩:Tk.Tok)]).length (Tk.cellsOf (acc++[(⟨kind,text,line⟩:Tk.Tok)])):=by
 rw [Tk.Ao,Tk.cells_one,List.length_append]; subst hb; exact h
theorem qx {B:Nat} {w x w2:World} {e:TypeId} {size:Nat} {v:Value} {n:Nat} {xs:List Value} (h:x.ownsRow B e size v n xs) (hb:Below B w x) (hB:B≤x.heap.size) (hg:x.grownBy w2 v.ownBlock):Below B w w2:=
 hb.grown hg hB (fun _ hk=>(h.lt _ hk).1)
theorem VX {x:World} {B:Nat} {e:TypeId} {size:Nat} {v:Value} {n:Nat} {xs:List Value} (h:x.ownsRow B e size v n xs) {wo:World} (ho:wo.ownsRow B e size v n xs) (j:Nat) (u:Value):(x.setCell ⟨wo.heap.size,j,none⟩ u).ownsRow B e size v n xs:=
 ownsRow_setCell_other h (fun e=>by have:=(ho.lt _ e).2; simp at this) u
set_option maxRecDepth 100000 in
set_option maxHeartbeats 8000000 in
theorem Kw (s:ByteArray) (w:World) (hm:s.size≤maxLen):
 Calls Tryz.prog 44 #[.string s] w (uX w (Tk.scan s.data.toList)):=by
 have hsz:=Lib.size_eq s
 unfold maxLen at hm
 by_cases hbig:4096 < s.size
 ·have HR:Hid (Tk.scan s.data.toList=([],2,0)):=by apply Lib.hid; unfold Tk.scan; rw [if_pos (by omega)]
  clear hsz
  go_enter Tryz.func44,Tryz.ntmps44
  go_wp2
  go_ret3
  rw [HR.out]
  exact ⟨_,rfl,World.ownsRow_nil _ _ _ _,Below.refl _ _⟩
 ·have HR:Hid (Tk.scan s.data.toList=Tk.dM s.data.toList.length s.data.toList 1 []):=by apply Lib.hid; unfold Tk.scan; rw [if_neg (by omega)]
  have hst:=Tk.SP.start s.data.toList
  rw [← HR.out] at hst
  generalize Tk.scan s.data.toList=R at *
  clear HR hsz
  obtain ⟨i0,hi,hz0,hz1,hz2⟩:=info_parts Tryz.infoTok
  have hs:s.size≤4096:=by omega
  clear hbig hm
  go_enter Tryz.func44,Tryz.ntmps44
  go_wp2
  go_loopw [5,6,7] (fun v ln i wr=> ∃(k line:Nat) (acc:List Tk.Tok),i= .int .i64 k∧ln= .int .i64 line∧Tk.SP s.data.toList R k line acc∧
   wr.ownsRow w.heap.size 112 3 v acc.length (Tk.cellsOf acc)∧Below w.heap.size w wr) (fun _ _ i _=>s.size - (intOf i).toNat)
  case atStart=>exact ⟨0,1,[],rfl,rfl,hst,World.ownsRow_nil _ _ _ _,Below.refl _ _⟩
  case round=>
   obtain ⟨k,line,acc,rfl,rfl,hsp,hown,hbel⟩:=hrel
   clear hst
   have hk:k≤s.size:=by rw [Lib.size_eq]; exact hsp.1
   have ZE:line≤k + 1:=hsp.2.1
   by_cases hlt:k < s.size
   ·have hlt':k < s.data.toList.length:=by rw [← Lib.size_eq]; exact hlt
    have hget:s.data.toList[k]=s[k]:=rfl
    by_cases h10:s[k]=10
    ·have hnx:=hsp.nl hlt' h10
     have hb:((s[k].toNat:Int) == 10)=true:=by rw [h10]; rfl
     have hb1:((s[k].toNat:Int) == 32)=false:=by rw [h10]; rfl
     have hb2:((s[k].toNat:Int) == 9)=false:=by rw [h10]; rfl
     have hb3:((s[k].toNat:Int) == 13)=false:=by rw [h10]; rfl
     clear h10 hget
     go_wp2
     go_roundw
     case rel=>exact ⟨k + 1,line + 1,acc,by go_num,by go_num,hnx,hown,hbel⟩
     case measure=>simp [intOf]; omega
    ·have hb:=Tw _ h10
     rcases Cj s[k] with ⟨hbl,hcase⟩ | ⟨hbl,t1,t2,t3⟩
     ·have hnx:=hsp.blank hlt' hbl
      clear h10 hget hbl
      rcases hcase with t1 | ⟨t1,t2⟩ | ⟨t1,t2,t3⟩
      all_goals
       go_wp2
       go_roundw
       case rel=>exact ⟨k + 1,line,acc,by go_num,rfl,hnx,hown,hbel⟩
       case measure=>simp [intOf]; omega
     ·rcases KI s k hlt with ⟨hp,p1,hk1,p2⟩ | ⟨hp,Hl⟩
      ·obtain ⟨hnx,hc1⟩:=hsp.wN hlt' h10 hbl hp
       have hn0:=qo.start (· != 10) s k
       clear hbl hp hget
       obtain ⟨wo,rfl⟩: ∃wo:World,wo=wr:=⟨_,rfl⟩
       go_wp2
       go_loop [7] (fun i=> ∃b:Nat,k≤b∧b≤s.size∧i= .int .i64 b∧qo (· != 10) s k b) (fun i=>s.size - (intOf i).toNat)
       case atStart=>exact ⟨k,Nat.le_refl _,by omega,rfl,hn0⟩
       case round=>
        obtain ⟨b,hkb,hbs,rfl,hno⟩:=hrel
        have hfin:(∀h:b < s.size,(s[b] != 10)=false)→Tk.SP s.data.toList R b line acc∧k < b:=fun he=>by
         have e:Tk.wN (s.data.toList.drop k)=b - k:=hno.len hkb hbs he
         rw [e,show k + (b - k)=b from by omega] at hnx
         exact ⟨hnx,by omega⟩
        clear hnx hc1
        by_cases hbl:b < s.size
        ·have hbn:=ZX s[b]
         cases EW:(s[b] != 10)
         ·rw [EW] at hbn
          obtain ⟨hnx,hkb'⟩:=hfin (fun _=>EW)
          clear hfin EW
          go_wp2
          go_roundw
          case rel=>exact ⟨b,line,acc,rfl,rfl,hnx,hown,hbel⟩
          case measure=>simp [intOf]; omega
         ·rw [EW] at hbn
          have hst:=hno.step hbl EW
          clear hfin EW
          go_wp2
          go_round
          case rel=>exact ⟨b + 1,by omega,by omega,by go_num,hst⟩
          case measure=>simp [intOf]; omega
        ·obtain ⟨hnx,hkb'⟩:=hfin (fun h=>absurd h hbl)
         clear hfin
         go_wp2
         go_roundw
         case rel=>exact ⟨b,line,acc,rfl,rfl,hnx,hown,hbel⟩
         case measure=>simp [intOf]; omega
      ·have hok:=fun h4=>hsp.tok hlt' h10 hbl hp h4
       have nA:=fun h4=>hsp.err hlt' h10 hbl hp h4
       clear h10 hget hbl hp
       have EB:=hbel.size
       have hacc:acc.length≤4096:=by have:=hsp.2.2.1; omega
       have hc3:acc.length + 1≤maxLen:=by unfold maxLen; omega
       have hc4:(acc.length + 1) * 32≤140737488355328:=by omega
       cases hL:Tk.lK s[k]
       ·have l1:Tk.lU (s[k].toNat:Int)=false:=hL
        cases hD:Tk.bW s[k]
        ·have l2:Tk.iU (s[k].toNat:Int)=false:=hD
         have hf:=Ms s k hlt hL hD
         clear hL hD
         have hgz:(zQ s k).size=(Tk.eX (s.data.toList.drop k)).length:=Lib.size_mk _
         cases hE:(zQ s k).toList.isEmpty
         ·rw [hE,if_neg (by decide)] at hf
          rw [hf] at hok
          obtain ⟨hnx,htl⟩:=hok rfl
          simp only [] at hnx htl
          rw [← hgz] at hnx htl
          have hle:k + (zQ s k).size≤s.size:=by have:=hnx.1; rw [← Lib.size_eq] at this; exact this
          have EX:Hid (zQ s k=⟨(Tk.eX (s.data.toList.drop k)).toArray⟩):=Lib.hid rfl
          clear hf hok nA hgz
          obtain ⟨wo,rfl⟩: ∃wo:World,wo=wr:=⟨_,rfl⟩
          rcases Hl with p1 | ⟨p1,p2⟩ | ⟨p1,hk1,p2⟩
          all_goals
           go_wp2_with (first | (go_at_call 73; refine (qj _ _).mono ?_; rintro e w' ⟨rfl,rfl⟩) | (go_at_call 78; refine (kG _ _).mono ?_; rintro e w' ⟨rfl,rfl⟩))
           refine (Jb _ _ _ (by omega) hk).mono ?_
           rintro e w1 ⟨rfl,hb1⟩
           have hz:=hb1.size
           have hown1:=own_below hown hb1
           have nE:=hown1.alloc (.cells #[.int .i64 4,.string (zQ s k),.int .i64 line] 112)
           have rW:=(hbel.trans (hb1.mono EB)).alloc (by omega) (.cells #[.int .i64 4,.string (zQ s k),.int .i64 line] 112)
           have wJ:w.heap.size≤(w1.alloc (.cells #[.int .i64 4,.string (zQ s k),.int .i64 line] 112)).heap.size:=by simp; omega
           go_wp2_with (at_builtin; refine wpList_append_own _ rfl _ _ 71 rfl w.heap.size 112 i0 _ 3 32 Tryz.underlying71 hi hz0 hz1 hz2 rfl (by decide) _ _ _ rfl nE ⟨w1.heap.size,0,none⟩ 1 1 [.int .i64 4,.string (zQ s k),.int .i64 line] rfl rfl (He rfl _ _ _ _) (Ng _ _ _) hc3 hc4 wJ ?_; intro v' w2 hown2 hgrow2 _)
           have uo:=qx nE rW wJ hgrow2
           have hown3:=yV EX.out hown2
           clear hown2 hgrow2 nE rW wJ hown1 hown hb1 hbel hi hz0 hz1 hz2 hc3 hc4
           go_wp2
           go_roundw
           case rel=>exact ⟨k + (zQ s k).size,line,_,by go_num,rfl,hnx,hown3,uo⟩
           case measure=>simp [intOf]; omega
         ·rw [hE,if_pos rfl] at hf
          rw [hf] at nA
          have HR:=Lib.hid (nA (by decide))
          clear hf hok nA hgz
          obtain ⟨wo,rfl⟩: ∃wo:World,wo=wr:=⟨_,rfl⟩
          rcases Hl with p1 | ⟨p1,p2⟩ | ⟨p1,hk1,p2⟩
          all_goals
           go_wp2_with (first | (go_at_call 73; refine (qj _ _).mono ?_; rintro e w' ⟨rfl,rfl⟩) | (go_at_call 78; refine (kG _ _).mono ?_; rintro e w' ⟨rfl,rfl⟩))
           refine (Jb _ _ _ (by omega) hk).mono ?_
           rintro e w1 ⟨rfl,hb1⟩
           go_wp2
           go_ret3
           rw [HR.out]
           exact ⟨_,rfl,World.ownsRow_nil _ _ _ _,hbel.trans (hb1.mono EB)⟩
        ·have l2:Tk.iU (s[k].toNat:Int)=true:=hD
         have l3:=NS _ l2
         have hfn:=fun b h1 h2 h=>OL s k b hlt h1 h2 hL hD h
         clear Hl hL
         have hn0:=(qo.start Tk.bW s k).step hlt hD
         have X8:=qo.start Tk.bW s k
         obtain ⟨wo,rfl⟩: ∃wo:World,wo=wr:=⟨_,rfl⟩
         go_wp2_with (first | (go_at_call 73; refine (qj _ _).mono ?_; rintro e w' ⟨rfl,rfl⟩) | (go_at_call 78; refine (kG _ _).mono ?_; rintro e w' ⟨rfl,rfl⟩))
         go_loop [9] (fun i=> ∃b:Nat,k≤b∧b≤s.size∧i= .int .i64 b∧qo Tk.bW s k b) (fun i=>s.size - (intOf i).toNat)
         case atStart=>exact ⟨k,Nat.le_refl _,by omega,rfl,X8⟩
         case round=>
          obtain ⟨b,hkb,hbs,rfl,hno⟩:=hrel
          clear hn0 X8
          by_cases hc: ∃h:b < s.size,Tk.bW s[b]=true
          ·obtain ⟨hbl,hi1⟩:=hc
           have hi2:Tk.iU (s[b].toNat:Int)=true:=hi1
           have hst:=hno.step hbl hi1
           clear hi1 hfn hok nA hD
           go_wp2_with (go_at_call 78; refine (kG _ _).mono ?_; rintro e w' ⟨rfl,rfl⟩)
           go_round
           case rel=>exact ⟨b + 1,by omega,by omega,by go_num,hst⟩
           case measure=>simp [intOf]; omega
          ·have hkb':k < b:=by
            rcases Nat.lt_or_ge k b with h | h
            ·exact h
            ·obtain rfl:b=k:=by omega
             exact absurd ⟨hlt,hD⟩ hc
           have hlen:=hno.len hkb hbs (fun h=>by rw [Bool.eq_false_iff]; exact fun e=>hc ⟨h,e⟩)
           have EX:=Lib.hid (qo.text hlen)
           have hxs:(s.extract k b).size≤maxLen:=by unfold maxLen; simp; omega
           have hnD: ∀h:b < s.size,Tk.iU (s[b].toNat:Int)=false:=fun h=>by
            show Tk.bW s[b]=false
            rw [Bool.eq_false_iff]; exact fun e=>hc ⟨h,e⟩
           rcases hfn b hbs hkb' hlen with ⟨hcase,hf⟩ | ⟨⟨hN,hI⟩,hf⟩
           ·rw [hf] at nA
            have HR:=Lib.hid (nA (by decide))
            clear hfn hok nA hf hlen hc hD
            have go: ∀Z:Prop,(tC (s.extract k b)=false→(hbl:b < s.size)→Tk.iU (s[b].toNat:Int)=false→Z)→(tC (s.extract k b)=false→ ¬ b < s.size→Z)→(tC (s.extract k b)=true→(hbl:b < s.size)→Tk.iU (s[b].toNat:Int)=false→Tk.Ah (s[b].toNat:Int)=true→Z)→Z:=by
             intro Z h1 h2 h3
             rcases hcase with hN | ⟨hN,hbl,hI⟩
             ·by_cases hbl:b < s.size
              ·exact h1 hN hbl (hnD hbl)
              ·exact h2 hN hbl
             ·exact h3 hN hbl (hnD hbl) hI
            clear hcase hnD
            refine go _ (fun hN hbl t4=> ?_) (fun hN hbl=> ?_) (fun hN hbl t4 t5=> ?_)
            all_goals
             clear go
             go_wp2_with (first | (go_at_call 78; refine (kG _ _).mono ?_; rintro e w' ⟨rfl,rfl⟩) | (go_at_call 79; refine (Jr _ _ hxs).mono ?_; rintro e w' ⟨rfl,rfl⟩) | (go_at_call 75; refine (pR _ _).mono ?_; rintro e w' ⟨rfl,rfl⟩))
             go_ret3
             rw [HR.out]
             exact ⟨_,rfl,World.ownsRow_nil _ _ _ _,hbel⟩
           ·rw [hf] at hok
            obtain ⟨hnx,htl⟩:=hok rfl
            simp only [hlen] at hnx htl
            rw [show k + (b - k)=b from by omega] at hnx
            clear hfn hok nA hf hlen hc hD
            have go: ∀Z:Prop,((hbl:b < s.size)→Tk.iU (s[b].toNat:Int)=false→Tk.Ah (s[b].toNat:Int)=false→Z)→(¬ b < s.size→Z)→Z:=by
             intro Z h1 h2
             by_cases hbl:b < s.size
             ·exact h1 hbl (hnD hbl) (hI hbl)
             ·exact h2 hbl
            clear hI hnD
            have nE:=hown.alloc (.cells #[.int .i64 2,.string (s.extract k b),.int .i64 line] 112)
            have rW:=hbel.alloc EB (.cells #[.int .i64 2,.string (s.extract k b),.int .i64 line] 112)
            have wJ:w.heap.size≤(wo.alloc (.cells #[.int .i64 2,.string (s.extract k b),.int .i64 line] 112)).heap.size:=by simp; omega
            refine go _ (fun hbl t4 t5=> ?_) (fun hbl=> ?_)
            all_goals
             clear go
             go_wp2_with (first | (go_at_call 78; refine (kG _ _).mono ?_; rintro e w' ⟨rfl,rfl⟩) | (go_at_call 79; refine (Jr _ _ hxs).mono ?_; rintro e w' ⟨rfl,rfl⟩) | (go_at_call 75; refine (pR _ _).mono ?_; rintro e w' ⟨rfl,rfl⟩) | (at_builtin; refine wpList_append_own _ rfl _ _ 71 rfl w.heap.size 112 i0 _ 3 32 Tryz.underlying71 hi hz0 hz1 hz2 rfl (by decide) _ _ _ rfl nE ⟨wo.heap.size,0,none⟩ 1 1 [.int .i64 2,.string (s.extract k b),.int .i64 line] rfl rfl (He rfl _ _ _ _) (Ng _ _ _) hc3 hc4 wJ ?_; intro v' w2 hown2 hgrow2 _))
             have uo:=qx nE rW wJ (by assumption)
             have hown3:=yV EX.out (by assumption)
             go_roundw
             case rel=>exact ⟨b,line,_,rfl,rfl,hnx,hown3,uo⟩
             case measure=>simp [intOf]; omega
       ·have l1:Tk.lU (s[k].toNat:Int)=true:=hL
        have l2:=O1 _ l1
        have hfw:=fun b h=>uh s k b hlt hL h
        clear Hl
        have hn0:=qo.start Tk.dP s k
        obtain ⟨wo,rfl⟩: ∃wo:World,wo=wr:=⟨_,rfl⟩
        go_wp2_with (go_at_call 73; refine (qj _ _).mono ?_; rintro e w' ⟨rfl,rfl⟩)
        go_loop [9] (fun i=> ∃b:Nat,k≤b∧b≤s.size∧i= .int .i64 b∧qo Tk.dP s k b) (fun i=>s.size - (intOf i).toNat)
        case atStart=>exact ⟨k,Nat.le_refl _,by omega,rfl,hn0⟩
        case round=>
         obtain ⟨b,hkb,hbs,rfl,hno⟩:=hrel
         by_cases hc: ∃h:b < s.size,Tk.dP s[b]=true
         ·obtain ⟨hbl,hi1⟩:=hc
          have hi2:Tk.Ah (s[b].toNat:Int)=true:=hi1
          have hst:=hno.step hbl hi1
          clear hi1 hfw hok nA
          go_wp2_with (go_at_call 75; refine (pR _ _).mono ?_; rintro e w' ⟨rfl,rfl⟩)
          go_round
          case rel=>exact ⟨b + 1,by omega,by omega,by go_num,hst⟩
          case measure=>simp [intOf]; omega
         ·have hlen:=hno.len hkb hbs (fun h=>by rw [Bool.eq_false_iff]; exact fun e=>hc ⟨h,e⟩)
          have hf:=hfw b hlen
          have EX:=Lib.hid (qo.text hlen)
          have go: ∀Z:Prop,((hbl:b < s.size)→Tk.Ah (s[b].toNat:Int)=false→Z)→(¬ b < s.size→Z)→Z:=by
           intro Z h1 h2
           by_cases hbl:b < s.size
           ·exact h1 hbl (by show Tk.dP s[b]=false; rw [Bool.eq_false_iff]; exact fun e=>hc ⟨hbl,e⟩)
           ·exact h2 hbl
          clear hc hfw
          by_cases h12:12 < b - k
          ·rw [if_pos h12] at hf
           rw [hf] at nA
           have HR:=Lib.hid (nA (by decide))
           clear hok nA hf hlen
           refine go _ (fun hbl t4=> ?_) (fun hbl=> ?_)
           all_goals
            clear go
            go_wp2_with (go_at_call 75; refine (pR _ _).mono ?_; rintro e w' ⟨rfl,rfl⟩)
            go_ret3
            rw [HR.out]
            exact ⟨_,rfl,World.ownsRow_nil _ _ _ _,hbel⟩
          ·rw [if_neg h12] at hf
           rw [hf] at hok
           obtain ⟨hnx,htl⟩:=hok rfl
           simp only [hlen] at hnx htl
           rw [show k + (b - k)=b from by omega] at hnx
           clear hok nA hf hlen
           cases hK:Tq (s.extract k b)
           ·rw [hK,if_neg (by decide)] at hnx
            refine go _ (fun hbl t4=> ?_) (fun hbl=> ?_)
            all_goals
             clear go
             go_wp2_with (go_at_call 75; refine (pR _ _).mono ?_; rintro e w' ⟨rfl,rfl⟩)
             refine (yD _ _).mono ?_
             rintro e w1 ⟨rfl,hb1⟩
             obtain ⟨hc,hf⟩:=Hg hb1
             have hz:wo.heap.size < w1.heap.size:=by have:=hb1.size; simp at this; omega
             have hown1:=own_below (hown.alloc (.cells #[.int .i64 1,.string (s.extract k b),.int .i64 line] 112)) hb1
             have nE:=hown1.alloc (.cells #[.int .i64 1,.string (s.extract k b),.int .i64 line] 112)
             have rW:=((hbel.alloc EB (.cells #[.int .i64 1,.string (s.extract k b),.int .i64 line] 112)).trans (hb1.mono (by simp; omega))).alloc (by omega) (.cells #[.int .i64 1,.string (s.extract k b),.int .i64 line] 112)
             have wJ:w.heap.size≤(w1.alloc (.cells #[.int .i64 1,.string (s.extract k b),.int .i64 line] 112)).heap.size:=by simp; omega
             go_wp2_with (at_builtin; refine wpList_append_own _ rfl _ _ 71 rfl w.heap.size 112 i0 _ 3 32 Tryz.underlying71 hi hz0 hz1 hz2 rfl (by decide) _ _ _ rfl nE ⟨w1.heap.size,0,none⟩ 1 1 [.int .i64 1,.string (s.extract k b),.int .i64 line] rfl rfl (He rfl _ _ _ _) (Ng _ _ _) hc3 hc4 wJ ?_; intro v' w2 hown2 hgrow2 _)
             have uo:=qx nE rW wJ hgrow2
             have hown3:=yV EX.out hown2
             clear hown2 hgrow2 nE rW wJ hown1 hown hb1 hbel hi hz0 hz1 hz2 hc hf hc3 hc4
             go_wp2
             go_roundw
             case rel=>exact ⟨b,line,_,rfl,rfl,hnx,hown3,uo⟩
             case measure=>simp [intOf]; omega
           ·rw [hK,if_pos rfl] at hnx
            refine go _ (fun hbl t4=> ?_) (fun hbl=> ?_)
            all_goals
             clear go
             go_wp2_with (go_at_call 75; refine (pR _ _).mono ?_; rintro e w' ⟨rfl,rfl⟩)
             refine (yD _ _).mono ?_
             rintro e w1 ⟨rfl,hb1⟩
             obtain ⟨hc,hf⟩:=Hg hb1
             have hz:wo.heap.size < w1.heap.size:=by have:=hb1.size; simp at this; omega
             have hown1:=own_below (hown.alloc (.cells #[.int .i64 1,.string (s.extract k b),.int .i64 line] 112)) hb1
             have nE:=(VX hown1 hown 0 (.int .i64 3)).alloc (.cells #[.int .i64 3,.string (s.extract k b),.int .i64 line] 112)
             have hzs:=size_set w1 ⟨wo.heap.size,0,none⟩ (.int .i64 3)
             have rW:=(((hbel.alloc EB (.cells #[.int .i64 1,.string (s.extract k b),.int .i64 line] 112)).trans (hb1.mono (by simp; omega))).setCell (p:=⟨wo.heap.size,0,none⟩) EB (.int .i64 3)).alloc (by omega) (.cells #[.int .i64 3,.string (s.extract k b),.int .i64 line] 112)
             have wJ:w.heap.size≤((w1.setCell ⟨wo.heap.size,0,none⟩ (.int .i64 3)).alloc (.cells #[.int .i64 3,.string (s.extract k b),.int .i64 line] 112)).heap.size:=by simp; omega
             have hnews:=He hzs 112 (.int .i64 3) (.string (s.extract k b)) (.int .i64 line)
             have HNW:=Lib.hid hnews
             clear hzs hnews
             go_wp2_with (at_builtin; refine wpList_append_own _ rfl _ _ 71 rfl w.heap.size 112 i0 _ 3 32 Tryz.underlying71 hi hz0 hz1 hz2 rfl (by decide) _ _ _ rfl nE ⟨w1.heap.size,0,none⟩ 1 1 [.int .i64 3,.string (s.extract k b),.int .i64 line] rfl rfl HNW.out (Ng _ _ _) hc3 hc4 wJ ?_; intro v' w2 hown2 hgrow2 _)
             have uo:=qx nE rW wJ hgrow2
             have hown3:=yV EX.out hown2
             clear hown2 hgrow2 nE rW wJ hown1 hown hb1 hbel hi hz0 hz1 hz2 hc hf hc3 hc4
             go_wp2
             go_roundw
             case rel=>exact ⟨b,line,_,rfl,rfl,hnx,hown3,uo⟩
             case measure=>simp [intOf]; omega
   ·have hR:=Lib.hid (hsp.done (by rw [← Lib.size_eq]; exact hlt))
    go_wp2
    go_ret3
    rw [hR.out]
    exact ⟨_,rfl,hown,hbel⟩
end Go.Proofs.YtehnipchbmjlhaaGreatDoor
end
