/-
  Plain functions of the token layer: what a text's tokens are, over lists of bytes. No program in sight.
  Plain laws of the token layer's functions over lists of bytes. No program in sight.
  What all contracts of names import.
  The table of keywords in memory, and token.IsKeyword's contract.
  Small facts on the signs of names.
  Plain laws on decimal digits and signs.
  The rounds of a scan, as plain laws.
-/
import Derived.Lib.Strings
import Derived.Lib.Bytealg
import Derived.Lib.TrimByte
import Derived.Laws.Strings
import Derived.Test.YtdajkddgnfgijaaGreatDoorChecked
import Derived.WalkKit
import Derived.WalkSpells
import Derived.WalkLawsBesides
import Derived.Lib.Walk
import Derived.Lib.Hide
import Derived.Deep.Light
import Derived.Laws.Strings2
section
namespace Go.Proofs.YtdajkddgnfgijaaGreatDoor.Tk
def qH (c:Int):Bool:=(decide (97≤c) && decide (c≤122)) || (decide (65≤c) && decide (c≤90))
def oF (c:Int):Bool:=decide (48≤c) && decide (c≤57)
def V4 (c:Int):Bool:=(qH c || oF c) || c == 95
def wT (c:UInt8):Bool:=qH c.toNat
def iH (c:UInt8):Bool:=oF c.toNat
def iJ (c:UInt8):Bool:=V4 c.toNat
def DN:List (List UInt8):=[[118,97,114],[118,111,108,97,116,105,108,101],[109,117,116,101,120],[114,119,108,111,99,107],[99,111,110,100],[102,117,116,117,114,101],[116,104,114,101,97,100],[105,102],[101,108,115,101],[119,104,105,108,101],[108,111,99,107],[114,101,97,100],[119,114,105,116,101],[116,114,97,110,115,97,99,116,105,111,110],[97,116,111,109,105,99],[119,97,105,116],[110,111,116,105,102,121],[110,111,116,105,102,121,97,108,108],[115,112,97,119,110],[106,111,105,110],[115,101,116],[103,101,116]]
def pR (l:List UInt8):Bool:=DN.contains l
def Kq:List (List UInt8):=[[124,124],[38,38],[61,61],[33,61],[60,61],[62,61],[60],[62],[43],[45],[42],[47],[37],[33],[61],[40],[41],[91],[93],[123],[125],[44],[59]]
def jh (l:List UInt8):List UInt8:=(Kq.find? fun g=>g.isPrefixOf l).getD []
def val (l:List UInt8):Nat:=l.foldl (fun n c=>10 * n + (c.toNat - 48)) 0
def qb (l:List UInt8):Bool:=decide (val l≤9223372036854775807)
def kT (l:List UInt8):Bool:=(decide (1≤l.length) && decide (l.length≤12) && !pR l) && (l.head?.any wT && l.all iJ)
structure Tok where
 kind:Nat
 text:List UInt8
 line:Nat
def mI (l:List UInt8):Nat × Nat × List UInt8:=
 if 12 < (l.takeWhile iJ).length then (2,0,[]) else (0,if pR (l.takeWhile iJ) then 3 else 1,l.takeWhile iJ)
def sV (l:List UInt8):Nat × Nat × List UInt8:=
 if ((l.dropWhile iH).head?.any iJ) || !qb (l.takeWhile iH) then (3,0,[]) else (0,2,l.takeWhile iH)
def Bb (l:List UInt8):Nat × Nat × List UInt8:=
 if (jh l).isEmpty then (3,0,[]) else (0,4,jh l)
def first (l:List UInt8):Nat × Nat × List UInt8:=
 if wT (l.headD 0) then mI l else if iH (l.headD 0) then sV l else Bb l
def gu:Nat→List UInt8→Nat→List Tok→List Tok × Nat × Nat
 | _,[],_,acc=>(acc,0,0)
 | 0,_ ::_,_,acc=>(acc,0,0)
 | f + 1,c ::r,line,acc=>
   if c=10 then gu f r (line + 1) acc
   else if c=32∨c=9∨c=13 then gu f r line acc
   else if [47,47].isPrefixOf (c ::r) then gu f ((c ::r).dropWhile (· != 10)) line acc
   else if (first (c ::r)).1=0 then gu f ((c ::r).drop (first (c ::r)).2.2.length) line (acc++[⟨(first (c ::r)).2.1,(first (c ::r)).2.2,line⟩])
   else ([],(first (c ::r)).1,line)
def scan (l:List UInt8):List Tok × Nat × Nat:=
 if 4096 < l.length then ([],2,0) else gu l.length l 1 []
def Tok.cells (t:Tok):List Value:=[.int .i64 t.kind,.string ⟨t.text.toArray⟩,.int .i64 t.line]
def cellsOf (l:List Tok):List Value:=l.flatMap Tok.cells
end Go.Proofs.YtdajkddgnfgijaaGreatDoor.Tk
end
section
namespace Go.Proofs.YtdajkddgnfgijaaGreatDoor.Tk
theorem Aa (p:UInt8→Bool): ∀(l:List UInt8) (n:Nat),n≤l.length→(∀j (h:j < l.length),j < n→p l[j]=true)→(∀h:n < l.length,p l[n]=false)→(l.takeWhile p).length=n
 | [],n,hn,_,_=>by simp at hn; simp [hn]
 | c ::l,0,_,_,h2=>by
   have:=h2 (by simp)
   simp only [List.getElem_cons_zero] at this
   simp [this]
 | c ::l,n + 1,hn,h1,h2=>by
   have h0:=h1 0 (by simp) (by omega)
   simp only [List.getElem_cons_zero] at h0
   rw [List.takeWhile_cons,if_pos h0,List.length_cons]
   congr 1
   refine Aa p l n (by simpa using hn) (fun j h hj=> ?_) (fun h=> ?_)
   ·have:=h1 (j + 1) (by simpa using h) (by omega)
    simpa using this
   ·have:=h2 (by simpa using h)
    simpa using this
theorem take_takeWhile (p:UInt8→Bool): ∀(l:List UInt8),l.take (l.takeWhile p).length=l.takeWhile p
 | []=>rfl
 | c ::l=>by
   rw [List.takeWhile_cons]
   split
   ·simp [take_takeWhile p l]
   ·rfl
theorem qg (p:UInt8→Bool): ∀(l:List UInt8),l.drop (l.takeWhile p).length=l.dropWhile p
 | []=>rfl
 | c ::l=>by
   rw [List.takeWhile_cons,List.dropWhile_cons]
   split
   ·simp [qg p l]
   ·rfl
theorem uw (p:UInt8→Bool): ∀l:List UInt8,(l.takeWhile p).length≤l.length
 | []=>Nat.le_refl _
 | c ::l=>by
   rw [List.takeWhile_cons]
   have:=uw p l
   split <;> simp <;> omega
theorem vR (c:UInt8): ∀l:List UInt8,Lib.indexByte l c=if (l.takeWhile (· != c)).length < l.length then ((l.takeWhile (· != c)).length:Int) else -1
 | []=>rfl
 | b ::l=>by
   unfold Lib.indexByte
   rw [vR c l,List.takeWhile_cons]
   by_cases h:b=c
   ·subst h; simp
   ·have h1:(b == c)=false:=by simpa using h
    have h2:(b != c)=true:=by simpa using h
    rw [h1,h2,if_pos rfl,if_neg (by simp),List.length_cons,List.length_cons]
    generalize (l.takeWhile (· != c)).length=n
    by_cases h3:n < l.length
    ·have h4:n + 1 < l.length + 1:=by omega
     have h5:((n:Int) == -1)=false:=by simp
     simp [h3,h5]
    ·have h4: ¬ n + 1 < l.length + 1:=by omega
     simp [h3]
def A8 (l:List UInt8):Nat:=(l.takeWhile (· != 10)).length
theorem Ot (l:List UInt8):A8 l≤l.length:=uw _ _
theorem Uv (l:List UInt8) (h:0≤Lib.indexByte l 10):Lib.indexByte l 10=A8 l:=by
 rw [vR] at h ⊢
 by_cases h3:(l.takeWhile (· != 10)).length < l.length
 ·rw [if_pos h3]; rfl
 ·rw [if_neg h3] at h; omega
theorem Ul (l:List UInt8) (h:Lib.indexByte l 10 < 0):l.length=A8 l:=by
 rw [vR] at h
 by_cases h3:(l.takeWhile (· != 10)).length < l.length
 ·rw [if_pos h3] at h; omega
 ·have:=uw (· != 10) l
  unfold A8; omega
def kP (t s:ByteArray):Prop:=t.data.toList.dropWhile (· == 48)=s.data.toList.dropWhile (· == 48)
theorem kP.refl (s:ByteArray):kP s s:=rfl
theorem qV (t:ByteArray) (h:0 < t.size):t.data.toList=t[0] ::t.data.toList.drop 1:=by
 have h':0 < t.data.toList.length:=by rw [← Lib.size_eq]; exact h
 have:=List.drop_eq_getElem_cons h'
 rw [List.drop_zero] at this
 exact this
theorem kP.step {t s:ByteArray} (h:kP t s) (h0:0 < t.size) (he:t[0]=48):kP (t.extract 1 t.size) s:=by
 unfold kP at h ⊢
 rw [Lib.extract_data,← h]
 conv=>rhs; rw [qV t h0]
 rw [List.dropWhile_cons,if_pos (by rw [he]; rfl),List.take_of_length_le (by simp)]
theorem kP.done {t s:ByteArray} (h:kP t s) (he: ∀h0:0 < t.size,t[0]≠48):t=⟨(s.data.toList.dropWhile (· == 48)).toArray⟩:=by
 unfold kP at h
 rw [← h]
 have e:t.data.toList.dropWhile (· == 48)=t.data.toList:=by
  by_cases h0:0 < t.size
  ·rw [qV t h0,List.dropWhile_cons,if_neg (by simpa using he h0)]
  ·have:t.data.toList.length=0:=by rw [← Lib.size_eq]; omega
   rw [List.eq_nil_of_length_eq_zero this]; rfl
 rw [e]
end Go.Proofs.YtdajkddgnfgijaaGreatDoor.Tk
end
section
namespace Go.Proofs.YtdajkddgnfgijaaGreatDoor
open Go.RowKit
theorem OM (w:World) (cs:List Value) (t:TypeId) (k:Nat):(w.alloc (.cells cs.toArray t)).cell? ⟨w.heap.size,k,none⟩=cs[k]?:=by
 rw [cell_of_row _ w.heap.size k cs.toArray t (0,0) (heap_alloc_new w _)]
 simp
end Go.Proofs.YtdajkddgnfgijaaGreatDoor
end
section
namespace Go.Proofs.YtdajkddgnfgijaaGreatDoor
open Go.RowKit
def Ay (k:Nat):List UInt8:=Tk.DN.getD k []
def Pp (k:Nat):ByteArray:=⟨(Ay k).toArray⟩
theorem Ng (k:Nat) (h:k < Tk.DN.length):Ay k=Tk.DN[k]:=by unfold Ay; simp [h]
theorem dL {a b:Bool} (h:a=b):Ending.returned (.bool a)= .returned (.bool b):=by rw [h]
theorem bG {k:IntKind} {a b:Int} (h:a=b):Ending.returned (.int k a)= .returned (.int k b):=by rw [h]
def Bw:Array Value:=(Tk.DN.map fun l=>Value.string ⟨l.toArray⟩).toArray
def dw (w:World):Prop:= ∃t fr,w.heap[0]? =some (.cells Bw t fr)
theorem dw.below {B:Nat} {w w':World} (h:dw w) (hb:Below B w w') (hB:0 < B):dw w':=by
 obtain ⟨t,fr,h⟩:=h
 exact ⟨t,fr,(hb.block _ hB).trans h⟩
theorem dw.lt {w:World} (h:dw w):0 < w.heap.size:=by
 obtain ⟨t,fr,h⟩:=h
 exact (Array.getElem?_eq_some_iff.1 h).1
theorem dw.same {w w':World} (h:dw w) (hb:Below w.heap.size w w'):dw w':=h.below hb h.lt
theorem dw.alloc {w:World} (h:dw w) (o:Obj):dw (w.alloc o):=h.same ((Below.refl _ _).alloc (Nat.le_refl _) o)
theorem Pq (k:Nat) (hk:k < 22) (w:World):(Instr.index 210 (.agg Bw) (.int .i64 (k:Int))).run Tryz.prog w= .ok (.string (Pp k)) w:=by
 rcases (show k=0∨k=1∨k=2∨k=3∨k=4∨k=5∨k=6∨k=7∨k=8∨k=9∨k=10∨k=11∨k=12∨k=13∨k=14∨k=15∨k=16∨k=17∨k=18∨k=19∨k=20∨k=21 by omega) with rfl | rfl | rfl | rfl | rfl | rfl | rfl | rfl | rfl | rfl | rfl | rfl | rfl | rfl | rfl | rfl | rfl | rfl | rfl | rfl | rfl | rfl <;> kernel_rfl
theorem JA (k:Nat):(Pp k).toList=Ay k:=by
 unfold Pp; rw [Lib.toList_data]
theorem UF (k:Nat) (hk:k < 22) (l:List UInt8) (h:(l == Ay k)=true):Tk.pR l=true:=by
 have hl:Tk.DN.length=22:=rfl
 unfold Tk.pR
 rw [List.contains_iff_mem,show l=Ay k from by simpa using h,Ng _ (by omega)]
 exact List.getElem_mem _
theorem XG (l:List UInt8) (h: ∀k < 22,(l == Ay k)=false):Tk.pR l=false:=by
 have hl:Tk.DN.length=22:=rfl
 unfold Tk.pR
 rw [Bool.eq_false_iff]
 intro hc
 rw [List.contains_iff_mem] at hc
 obtain ⟨k,hk,e⟩:=List.getElem_of_mem hc
 have:=h k (by omega)
 rw [Ng _ hk,e] at this
 simp at this
def Ml (l:List UInt8) (k:Nat):Prop:= ∀j < k,(l == Ay j)=false
theorem Ml.step {l:List UInt8} {k:Nat} (h:Ml l k) (hk:(l == Ay k)=false):Ml l (k + 1):=by
 intro j hj
 by_cases e:j=k
 ·subst e; exact hk
 ·exact h j (by omega)
set_option maxHeartbeats 400000 in
theorem uM (s:ByteArray) (w:World) (h:dw w):
 Calls Tryz.prog 129 #[.string s] w fun e w'=>e= .returned (.bool (Tk.pR s.data.toList))∧w=w':=by
 obtain ⟨t,fr,hg⟩:=h
 rw [← Lib.toList_data]
 go_enter Tryz.func129,Tryz.ntmps129
 go_wp2_with (refine wpList_load_row rfl 210 _ rfl 0 rfl t _ fr _ hg Tryz.underlying210 rfl (by kernel_rfl) ?_)
 clear hg
 go_loop [6] (fun i=> ∃k:Nat,k≤22∧i= .int .i64 k∧Ml s.toList k) (fun i=>22 - (intOf i).toNat)
 case atStart=>exact ⟨0,Nat.zero_le _,rfl,fun j hj=>absurd hj (by omega)⟩
 case round=>
  obtain ⟨k,hk,rfl,hno⟩:=hrel
  by_cases hlt:k < 22
  ·have hix:=Pq k hlt
   have hat:=JA k
   by_cases he:(s.toList == Ay k)=true
   ·go_wp2
    go_ret
    exact ⟨dL (UF k hlt _ he).symm,rfl⟩
   ·have he':(s.toList == Ay k)=false:=by simpa using he
    clear he
    go_wp2
    go_round
    case rel=>exact ⟨k + 1,by omega,by go_num,hno.step he'⟩
    case measure=>simp [intOf]; omega
  ·obtain rfl:k=22:=by omega
   go_wp2
   go_ret
   exact ⟨dL (XG _ hno).symm,rfl⟩
end Go.Proofs.YtdajkddgnfgijaaGreatDoor
end
section
namespace Go.Proofs.YtdajkddgnfgijaaGreatDoor
open Go.RowKit
theorem WG (c:UInt8):Tk.iJ c=((Tk.wT c || Tk.iH c) || ((c.toNat:Int) == 95)):=rfl
theorem IY (c:UInt8) (h:Tk.wT c=true):Tk.iJ c=true:=by rw [WG,h]; rfl
theorem wQ (c:UInt8):(Tk.iJ c=true∧Tk.qH (c.toNat:Int)=true)∨(Tk.iJ c=true∧Tk.qH (c.toNat:Int)=false∧Tk.oF (c.toNat:Int)=true)∨
 (Tk.iJ c=true∧Tk.qH (c.toNat:Int)=false∧Tk.oF (c.toNat:Int)=false∧((c.toNat:Int) == 95)=true)∨
 (Tk.iJ c=false∧Tk.qH (c.toNat:Int)=false∧Tk.oF (c.toNat:Int)=false∧((c.toNat:Int) == 95)=false):=by
 have e:Tk.iJ c=((Tk.qH (c.toNat:Int) || Tk.oF (c.toNat:Int)) || ((c.toNat:Int) == 95)):=rfl
 rw [e]
 cases Tk.qH (c.toNat:Int) <;> cases Tk.oF (c.toNat:Int) <;> cases ((c.toNat:Int) == 95) <;> simp
end Go.Proofs.YtdajkddgnfgijaaGreatDoor
end
section
namespace Go.Proofs.YtdajkddgnfgijaaGreatDoor.Tk
theorem vN (c:UInt8):iH c=true↔48≤c.toNat∧c.toNat≤57:=by
 unfold iH oF
 simp only [Bool.and_eq_true,decide_eq_true_eq]
 omega
theorem Ow (l:List UInt8): ∀n:Nat,l.foldl (fun n c=>10 * n + (c.toNat - 48)) n=n * 10 ^ l.length + val l:=by
 induction l with
 | nil=>intro n; simp [val]
 | cons c l ih=>
   intro n
   have h0:=ih (10 * 0 + (c.toNat - 48))
   have h1:=ih (10 * n + (c.toNat - 48))
   unfold val
   simp only [List.foldl_cons]
   rw [h1,h0,List.length_cons,Nat.pow_succ]
   simp only [Nat.mul_zero,Nat.zero_add,Nat.add_mul]
   rw [Nat.add_assoc,Nat.mul_comm 10 n,Nat.mul_assoc,Nat.mul_comm 10]
theorem qF (c:UInt8) (l:List UInt8):val (c ::l)=(c.toNat - 48) * 10 ^ l.length + val l:=by
 have:=Ow l (10 * 0 + (c.toNat - 48))
 unfold val at *
 simp only [List.foldl_cons]
 rw [this]
 simp
theorem yY: ∀(l:List UInt8),l.all iH=true→val l < 10 ^ l.length
 | [],_=>by simp [val]
 | c ::l,h=>by
   rw [List.all_cons,Bool.and_eq_true,vN] at h
   have:=yY l h.2
   rw [qF,List.length_cons,Nat.pow_succ]
   have h9:(c.toNat - 48) * 10 ^ l.length≤9 * 10 ^ l.length:=Nat.mul_le_mul_right _ (by omega)
   omega
theorem Vb (c:UInt8) (l:List UInt8) (h:iH c=true) (h0:c≠48):10 ^ l.length≤val (c ::l):=by
 rw [vN] at h
 have hc:c.toNat≠48:=fun e=>h0 (UInt8.toNat_inj.1 e)
 rw [qF]
 have:1 * 10 ^ l.length≤(c.toNat - 48) * 10 ^ l.length:=Nat.mul_le_mul_right _ (by omega)
 omega
theorem zB: ∀l:List UInt8,val (l.dropWhile (· == 48))=val l
 | []=>rfl
 | c ::l=>by
   rw [List.dropWhile_cons]
   split
   ·rename_i h
    have:c=48:=by simpa using h
    subst this
    rw [zB l,qF]
    simp
   ·rfl
theorem zy (p q:UInt8→Bool): ∀l:List UInt8,l.all p=true→(l.dropWhile q).all p=true
 | [],_=>rfl
 | c ::l,h=>by
   rw [List.dropWhile_cons]
   split
   ·rw [List.all_cons,Bool.and_eq_true] at h
    exact zy p q l h.2
   ·exact h
theorem GR: ∀(a b:List UInt8),a.all iH=true→b.all iH=true→a.length=b.length→Op.bytesLess a b=decide (val a < val b)
 | [],[],_,_,_=>rfl
 | a ::x,b ::y,ha,hb,hl=>by
   rw [List.all_cons,Bool.and_eq_true] at ha hb
   have hl':x.length=y.length:=by simpa using hl
   have ih:=GR x y ha.2 hb.2 hl'
   have hx:=yY x ha.2
   have hy:=yY y hb.2
   have h1:=(vN a).1 ha.1
   have h2:=(vN b).1 hb.1
   unfold Op.bytesLess
   rw [ih,qF,qF,hl']
   rw [hl'] at hx
   generalize 10 ^ y.length=T at *
   rcases Nat.lt_trichotomy a.toNat b.toNat with h | h | h
   ·have e1:a < b:=UInt8.lt_iff_toNat_lt.2 h
    have:(a.toNat - 48) * T + T≤(b.toNat - 48) * T:=by
     have:=Nat.mul_le_mul_right T (show a.toNat - 48 + 1≤b.toNat - 48 by omega)
     rwa [Nat.add_mul,Nat.one_mul] at this
    have e2:(a.toNat - 48) * T + val x < (b.toNat - 48) * T + val y:=by omega
    simp [e1,e2]
   ·have e1:a=b:=UInt8.toNat_inj.1 h
    subst e1
    have e2: ¬ a < a:=by rw [UInt8.lt_iff_toNat_lt]; omega
    simp
   ·have e1: ¬ a < b:=by rw [UInt8.lt_iff_toNat_lt]; omega
    have e2:a≠b:=fun e=>by rw [e] at h; omega
    have:(b.toNat - 48) * T + T≤(a.toNat - 48) * T:=by
     have:=Nat.mul_le_mul_right T (show b.toNat - 48 + 1≤a.toNat - 48 by omega)
     rwa [Nat.add_mul,Nat.one_mul] at this
    have e3: ¬ (a.toNat - 48) * T + val x < (b.toNat - 48) * T + val y:=by omega
    simp [e1,e2,e3]
 | [],_ ::_,_,_,h=>by simp at h
 | _ ::_,[],_,_,h=>by simp at h
theorem val_inj: ∀(a b:List UInt8),a.all iH=true→b.all iH=true→a.length=b.length→val a=val b→a=b
 | [],[],_,_,_,_=>rfl
 | a ::x,b ::y,ha,hb,hl,hv=>by
   rw [List.all_cons,Bool.and_eq_true] at ha hb
   have hl':x.length=y.length:=by simpa using hl
   have hx:=yY x ha.2
   have hy:=yY y hb.2
   have h1:=(vN a).1 ha.1
   have h2:=(vN b).1 hb.1
   have hv':=hv
   rw [qF,qF,hl'] at hv
   rw [hl'] at hx
   have hab:a.toNat=b.toNat:=by
    generalize 10 ^ y.length=T at *
    rcases Nat.lt_trichotomy a.toNat b.toNat with h | h | h
    ·have:=Nat.mul_le_mul_right T (show a.toNat - 48 + 1≤b.toNat - 48 by omega)
     rw [Nat.add_mul,Nat.one_mul] at this
     omega
    ·exact h
    ·have:=Nat.mul_le_mul_right T (show b.toNat - 48 + 1≤a.toNat - 48 by omega)
     rw [Nat.add_mul,Nat.one_mul] at this
     omega
   obtain rfl:a=b:=UInt8.toNat_inj.1 hab
   rw [val_inj x y ha.2 hb.2 hl' (by omega)]
 | [],_ ::_,_,_,h,_=>by simp at h
 | _ ::_,[],_,_,h,_=>by simp at h
def great:List UInt8:=[57,50,50,51,51,55,50,48,51,54,56,53,52,55,55,53,56,48,55]
theorem xD:val great=9223372036854775807:=by decide
theorem G6:great.all iH=true:=by decide
theorem G9:great.length=19:=rfl
theorem Ld (l:List UInt8) (h:l.all iH=true) (hl:19 < (l.dropWhile (· == 48)).length):qb l=false:=by
 have ht:=zy iH (· == 48) l h
 unfold qb
 rw [← zB l]
 have hh: ∀c r,l.dropWhile (· == 48)=c ::r→c≠48:=by
  intro c r e
  have:=List.head?_dropWhile_not (· == 48) l
  rw [e] at this
  simpa using this
 generalize l.dropWhile (· == 48)=t at *
 match t,hl,ht,hh with
 | c ::r,hl,ht,hh=>
   rw [List.all_cons,Bool.and_eq_true] at ht
   have h1:=Vb c r ht.1 (hh c r rfl)
   have h2:10 ^ 19≤10 ^ r.length:=Nat.pow_le_pow_right (by omega) (by simp at hl; omega)
   have h3:(10:Nat) ^ 19=10000000000000000000:=rfl
   rw [h3] at h2
   simp only [decide_eq_false_iff_not]
   omega
theorem Jw (l:List UInt8) (h:l.all iH=true) (hl:(l.dropWhile (· == 48)).length < 19):qb l=true:=by
 have ht:=zy iH (· == 48) l h
 unfold qb
 rw [← zB l]
 generalize l.dropWhile (· == 48)=t at *
 have h1:=yY t ht
 have h2:10 ^ t.length≤10 ^ 18:=Nat.pow_le_pow_right (by omega) (by omega)
 have h3:(10:Nat) ^ 18=1000000000000000000:=rfl
 rw [h3] at h2
 simp only [decide_eq_true_eq]
 omega
theorem Py (l:List UInt8) (h:l.all iH=true) (hl:(l.dropWhile (· == 48)).length=19):
 (!(Op.bytesLess (l.dropWhile (· == 48)) great || (l.dropWhile (· == 48)) == great))= !qb l:=by
 have ht:=zy iH (· == 48) l h
 unfold qb
 rw [← zB l]
 generalize l.dropWhile (· == 48)=t at *
 rw [GR t great ht G6 (by rw [hl,G9]),xD]
 congr 1
 by_cases e:val t=9223372036854775807
 ·have:t=great:=val_inj t great ht G6 (by rw [hl,G9]) (by rw [e,xD])
  rw [this,xD]
  simp
 ·have hne:(t == great)=false:=by
   rw [beq_eq_false_iff_ne]
   intro e'
   rw [e',xD] at e
   exact e rfl
  rw [hne,Bool.or_false,decide_eq_decide]
  omega
def yc:List (List UInt8):=[[124,124],[38,38],[61,61],[33,61],[60,61],[62,61]]
def Gf:List UInt8:=[60,62,43,45,42,47,37,33,61,40,41,91,93,123,125,44,59]
theorem Vk:Kq=yc++Gf.map fun c=>[c]:=rfl
theorem CF (n:Nat) (l:List UInt8): ∀gs:List (List UInt8),(∀g ∈ gs,g.length=n)→gs.find? (fun g=>g.isPrefixOf l)=if gs.contains (l.take n) then some (l.take n) else none
 | [],_=>rfl
 | g ::gs,h=>by
   have hg:g.length=n:=h g (List.mem_cons_self ..)
   have ih:=CF n l gs fun x hx=>h x (List.mem_cons_of_mem _ hx)
   rw [List.find?_cons,ih,List.contains_cons]
   by_cases e:g.isPrefixOf l=true
   ·have e1:l.take n=g:=by
     obtain ⟨r,rfl⟩:=List.isPrefixOf_iff_prefix.1 e
     rw [← hg]; simp
    rw [e,e1]
    simp
   ·have e0:g.isPrefixOf l=false:=Bool.eq_false_iff.2 e
    have e1:(l.take n == g)=false:=by
     rw [beq_eq_false_iff_ne]
     intro e2
     exact e (List.isPrefixOf_iff_prefix.2 (e2 ▸ List.take_prefix _ _))
    rw [e0,e1]
    simp
theorem yM (l:List UInt8):jh l=if yc.contains (l.take 2) then l.take 2 else if (Gf.map fun c=>[c]).contains (l.take 1) then l.take 1 else []:=by
 unfold jh
 rw [Vk,List.find?_append,CF 2 l yc (by decide),CF 1 l (Gf.map fun c=>[c]) (by decide)]
 split
 ·rfl
 ·split <;> rfl
theorem H8 (a:UInt8):(Gf.map fun c=>[c]).contains [a]=Gf.contains a:=by
 simp [Gf]
theorem yS (c:UInt8): ∀l:List UInt8,l.contains c=decide (0≤Lib.indexByte l c)
 | []=>rfl
 | b ::l=>by
   have ih:=yS c l
   have hg:=Lib.indexByte_ge l c
   have hc:Lib.indexByte (b ::l) c=if b == c then 0 else if Lib.indexByte l c == -1 then -1 else Lib.indexByte l c + 1:=rfl
   rw [List.contains_cons,ih,hc]
   by_cases h:b=c
   ·subst h; simp
   ·have h1:(b == c)=false:=by simpa using h
    have h2:(c == b)=false:=by simpa using Ne.symm h
    rw [h1,h2]
    simp only [Bool.false_or,Bool.false_eq_true,if_false,decide_eq_decide]
    by_cases h3:Lib.indexByte l c= -1
    ·simp [h3]
    ·rw [if_neg (by simpa using h3)]
     omega
end Go.Proofs.YtdajkddgnfgijaaGreatDoor.Tk
end
section
namespace Go.Proofs.YtdajkddgnfgijaaGreatDoor.Tk
theorem xg (f line:Nat) (acc:List Tok):gu f [] line acc=(acc,0,0):=by cases f <;> rfl
theorem GV (p:UInt8→Bool) (c:UInt8) (r:List UInt8) (h:p c=true):1≤((c ::r).takeWhile p).length:=by
 rw [List.takeWhile_cons,if_pos h]; simp
theorem Kc (c:UInt8) (h:wT c=true):iJ c=true:=by
 have e:iJ c=((wT c || iH c) || ((c.toNat:Int) == 95)):=rfl
 rw [e,h]; rfl
theorem xu (c:UInt8) (r:List UInt8) (h:(first (c ::r)).1=0):1≤(first (c ::r)).2.2.length∧(first (c ::r)).2.2.length≤(c ::r).length∧(c ::r).take (first (c ::r)).2.2.length=(first (c ::r)).2.2:=by
 have hh:(c ::r).headD 0=c:=rfl
 unfold first at h ⊢
 rw [hh] at h ⊢
 by_cases hL:wT c=true
 ·rw [if_pos hL] at h ⊢
  unfold mI at h ⊢
  by_cases h12:12 < ((c ::r).takeWhile iJ).length
  ·rw [if_pos h12] at h; cases h
  ·rw [if_neg h12]
   exact ⟨GV _ _ _ (Kc c hL),uw _ _,take_takeWhile _ _⟩
 ·rw [if_neg hL] at h ⊢
  by_cases hD:iH c=true
  ·rw [if_pos hD] at h ⊢
   unfold sV at h ⊢
   split at h
   ·cases h
   ·rename_i h2
    rw [if_neg h2]
    exact ⟨GV _ _ _ hD,uw _ _,take_takeWhile _ _⟩
  ·rw [if_neg hD] at h ⊢
   unfold Bb at h ⊢
   split at h
   ·cases h
   ·rename_i h2
    rw [if_neg h2]
    have hlen:jh (c ::r)≠[]:=fun e=>h2 (by rw [e]; rfl)
    refine ⟨?_,?_,?_⟩
    ·cases hs:jh (c ::r) with
     | nil=>exact absurd hs hlen
     | cons a b=>simp
    ·show (jh (c ::r)).length≤_
     rw [yM]; split
     ·rw [List.length_take]; omega
     ·split
      ·rw [List.length_take]; omega
      ·simp
    ·show (c ::r).take (jh (c ::r)).length=jh (c ::r)
     rw [yM]; split
     ·rw [List.length_take,List.take_eq_take_iff]; omega
     ·split
      ·rw [List.length_take,List.take_eq_take_iff]; omega
      ·rfl
theorem QV (f:Nat) (r:List UInt8) (line:Nat) (acc:List Tok):gu (f + 1) (10 ::r) line acc=gu f r (line + 1) acc:=by
 rw [gu,if_pos rfl]
theorem Jp (f:Nat) (c:UInt8) (r:List UInt8) (line:Nat) (acc:List Tok) (h:c=32∨c=9∨c=13):gu (f + 1) (c ::r) line acc=gu f r line acc:=by
 have h1:c≠10:=by rcases h with rfl | rfl | rfl <;> decide
 rw [gu,if_neg h1,if_pos h]
theorem Oz (f:Nat) (c:UInt8) (r:List UInt8) (line:Nat) (acc:List Tok) (h1:c≠10) (h2: ¬ (c=32∨c=9∨c=13)) (h3:[47,47].isPrefixOf (c ::r)=true):gu (f + 1) (c ::r) line acc=gu f ((c ::r).dropWhile (· != 10)) line acc:=by
 rw [gu,if_neg h1,if_neg h2,if_pos h3]
theorem MK (f:Nat) (c:UInt8) (r:List UInt8) (line:Nat) (acc:List Tok) (h1:c≠10) (h2: ¬ (c=32∨c=9∨c=13)) (h3:[47,47].isPrefixOf (c ::r)=false) (h4:(first (c ::r)).1=0):
 gu (f + 1) (c ::r) line acc=gu f ((c ::r).drop (first (c ::r)).2.2.length) line (acc++[⟨(first (c ::r)).2.1,(first (c ::r)).2.2,line⟩]):=by
 rw [gu,if_neg h1,if_neg h2,if_neg (by rw [h3]; decide),if_pos h4]
theorem O9 (f:Nat) (c:UInt8) (r:List UInt8) (line:Nat) (acc:List Tok) (h1:c≠10) (h2: ¬ (c=32∨c=9∨c=13)) (h3:[47,47].isPrefixOf (c ::r)=false) (h4:(first (c ::r)).1≠0):
 gu (f + 1) (c ::r) line acc=([],(first (c ::r)).1,line):=by
 rw [gu,if_neg h1,if_neg h2,if_neg (by rw [h3]; decide),if_neg h4]
def SP (l:List UInt8) (R:List Tok × Nat × Nat) (k line:Nat) (acc:List Tok):Prop:=
 k≤l.length∧line≤k + 1∧acc.length≤k∧ ∃f,(l.drop k).length≤f∧gu f (l.drop k) line acc=R
theorem SP.start (l:List UInt8):SP l (gu l.length l 1 []) 0 1 []:=⟨Nat.zero_le _,Nat.le_refl _,Nat.le_refl _,l.length,Nat.le_refl _,rfl⟩
section
variable {l:List UInt8} {R:List Tok × Nat × Nat} {k line:Nat} {acc:List Tok}
theorem SP.cut (h:SP l R k line acc) (hk:k < l.length): ∃f,(l.drop (k + 1)).length≤f∧gu (f + 1) (l[k] ::l.drop (k + 1)) line acc=R:=by
 obtain ⟨_,_,_,f,hf,hR⟩:=h
 rw [List.drop_eq_getElem_cons hk] at hf hR
 cases f with
 | zero=>simp at hf; omega
 | succ f=>exact ⟨f,by rw [List.length_cons] at hf; omega,hR⟩
theorem SP.nl (h:SP l R k line acc) (hk:k < l.length) (hc:l[k]=10):SP l R (k + 1) (line + 1) acc:=by
 obtain ⟨f,hf,hR⟩:=h.cut hk
 rw [hc,QV] at hR
 exact ⟨hk,by have:=h.2.1; omega,by have:=h.2.2.1; omega,f,hf,hR⟩
theorem SP.blank (h:SP l R k line acc) (hk:k < l.length) (hc:l[k]=32∨l[k]=9∨l[k]=13):SP l R (k + 1) line acc:=by
 obtain ⟨f,hf,hR⟩:=h.cut hk
 rw [Jp _ _ _ _ _ hc] at hR
 exact ⟨hk,by have:=h.2.1; omega,by have:=h.2.2.1; omega,f,hf,hR⟩
theorem SP.A8 (h:SP l R k line acc) (hk:k < l.length) (h1:l[k]≠10) (h2: ¬ (l[k]=32∨l[k]=9∨l[k]=13)) (h3:[47,47].isPrefixOf (l.drop k)=true):SP l R (k + Tk.A8 (l.drop k)) line acc∧1≤Tk.A8 (l.drop k):=by
 obtain ⟨f,hf,hR⟩:=h.cut hk
 have e:=List.drop_eq_getElem_cons hk
 rw [e] at h3
 rw [Oz _ _ _ _ _ h1 h2 h3,← e,← qg,List.drop_drop] at hR
 have hle:=Ot (l.drop k)
 rw [List.length_drop] at hle
 have h1':1≤Tk.A8 (l.drop k):=by
  unfold Tk.A8; rw [e]
  exact GV (· != 10) _ _ (by simpa using h1)
 refine ⟨⟨by omega,by have:=h.2.1; omega,by have:=h.2.2.1; omega,f,?_,hR⟩,h1'⟩
 rw [List.length_drop] at hf ⊢
 omega
theorem SP.tok (h:SP l R k line acc) (hk:k < l.length) (h1:l[k]≠10) (h2: ¬ (l[k]=32∨l[k]=9∨l[k]=13)) (h3:[47,47].isPrefixOf (l.drop k)=false) (h4:(first (l.drop k)).1=0):
 SP l R (k + (first (l.drop k)).2.2.length) line (acc++[⟨(first (l.drop k)).2.1,(first (l.drop k)).2.2,line⟩])∧1≤(first (l.drop k)).2.2.length:=by
 obtain ⟨f,hf,hR⟩:=h.cut hk
 have e:=List.drop_eq_getElem_cons hk
 rw [e] at h3 h4
 have hl:=xu _ _ h4
 rw [MK _ _ _ _ _ h1 h2 h3 h4,← e,List.drop_drop] at hR
 rw [← e] at hl h4
 rw [List.length_drop] at hl
 refine ⟨⟨by omega,by have:=h.2.1; omega,?_,f,?_,hR⟩,hl.1⟩
 ·rw [List.length_append]; have:=h.2.2.1; simp; omega
 ·rw [List.length_drop] at hf ⊢
  omega
theorem SP.err (h:SP l R k line acc) (hk:k < l.length) (h1:l[k]≠10) (h2: ¬ (l[k]=32∨l[k]=9∨l[k]=13)) (h3:[47,47].isPrefixOf (l.drop k)=false) (h4:(first (l.drop k)).1≠0):
 R=([],(first (l.drop k)).1,line):=by
 obtain ⟨f,hf,hR⟩:=h.cut hk
 have e:=List.drop_eq_getElem_cons hk
 rw [e] at h3 h4
 rw [O9 _ _ _ _ _ h1 h2 h3 h4,← e] at hR
 exact hR.symm
theorem SP.done (h:SP l R k line acc) (hk: ¬ k < l.length):R=(acc,0,0):=by
 obtain ⟨_,_,_,f,hf,hR⟩:=h
 rw [List.drop_of_length_le (by omega),xg] at hR
 exact hR.symm
end
theorem J8 (l m:List Tok):cellsOf (l++m)=cellsOf l++cellsOf m:=by unfold cellsOf; rw [List.flatMap_append]
theorem cells_one (t:Tok):cellsOf [t]=t.cells:=by unfold cellsOf; simp
end Go.Proofs.YtdajkddgnfgijaaGreatDoor.Tk
end
