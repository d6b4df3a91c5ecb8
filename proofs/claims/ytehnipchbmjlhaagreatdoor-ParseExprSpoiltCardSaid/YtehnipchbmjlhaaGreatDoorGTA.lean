/-
  Plain functions of the token layer: what a text's tokens are, over lists of bytes. No program in sight.
  Plain laws of the token layer's functions over lists of bytes. No program in sight.
  What all contracts of names import.
  The table of keywords in memory, and token.IsKeyword's contract.
  Small facts on the signs of names.
  Plain laws on decimal digits and signs.
  The rounds of a scan, as plain laws.
  Plain laws of scans of texts that are put together. No program in sight.
  Plain laws: tokens written with spaces between them are scanned as themselves. No program in sight.
-/
import Derived.Lib.Strings
import Derived.Lib.Bytealg
import Derived.Lib.TrimByte
import Derived.Laws.Strings
import Derived.Test.YtehnipchbmjlhaaGreatDoorChecked
import Derived.WalkKit
import Derived.WalkSpells
import Derived.WalkLawsBesides
import Derived.Lib.Walk
import Derived.Lib.Hide
import Derived.Deep.Light
import Derived.Laws.Strings2
section
namespace Go.Proofs.YtehnipchbmjlhaaGreatDoor.Tk
def lU (c:Int):Bool:=(decide (97≤c) && decide (c≤122)) || (decide (65≤c) && decide (c≤90))
def iU (c:Int):Bool:=decide (48≤c) && decide (c≤57)
def Ah (c:Int):Bool:=(lU c || iU c) || c == 95
def lK (c:UInt8):Bool:=lU c.toNat
def bW (c:UInt8):Bool:=iU c.toNat
def dP (c:UInt8):Bool:=Ah c.toNat
def vo:List (List UInt8):=[[118,97,114],[118,111,108,97,116,105,108,101],[109,117,116,101,120],[114,119,108,111,99,107],[99,111,110,100],[102,117,116,117,114,101],[116,104,114,101,97,100],[105,102],[101,108,115,101],[119,104,105,108,101],[108,111,99,107],[114,101,97,100],[119,114,105,116,101],[116,114,97,110,115,97,99,116,105,111,110],[97,116,111,109,105,99],[119,97,105,116],[110,111,116,105,102,121],[110,111,116,105,102,121,97,108,108],[115,112,97,119,110],[106,111,105,110],[115,101,116],[103,101,116]]
def jB (l:List UInt8):Bool:=vo.contains l
def nP:List (List UInt8):=[[124,124],[38,38],[61,61],[33,61],[60,61],[62,61],[60],[62],[43],[45],[42],[47],[37],[33],[61],[40],[41],[91],[93],[123],[125],[44],[59]]
def eX (l:List UInt8):List UInt8:=(nP.find? fun g=>g.isPrefixOf l).getD []
def val (l:List UInt8):Nat:=l.foldl (fun n c=>10 * n + (c.toNat - 48)) 0
def jo (l:List UInt8):Bool:=decide (val l≤9223372036854775807)
def dQ (l:List UInt8):Bool:=(decide (1≤l.length) && decide (l.length≤12) && !jB l) && (l.head?.any lK && l.all dP)
structure Tok where
 kind:Nat
 text:List UInt8
 line:Nat
def jU (l:List UInt8):Nat × Nat × List UInt8:=
 if 12 < (l.takeWhile dP).length then (2,0,[]) else (0,if jB (l.takeWhile dP) then 3 else 1,l.takeWhile dP)
def nV (l:List UInt8):Nat × Nat × List UInt8:=
 if ((l.dropWhile bW).head?.any dP) || !jo (l.takeWhile bW) then (3,0,[]) else (0,2,l.takeWhile bW)
def qy (l:List UInt8):Nat × Nat × List UInt8:=
 if (eX l).isEmpty then (3,0,[]) else (0,4,eX l)
def first (l:List UInt8):Nat × Nat × List UInt8:=
 if lK (l.headD 0) then jU l else if bW (l.headD 0) then nV l else qy l
def dM:Nat→List UInt8→Nat→List Tok→List Tok × Nat × Nat
 | _,[],_,acc=>(acc,0,0)
 | 0,_ ::_,_,acc=>(acc,0,0)
 | f + 1,c ::r,line,acc=>
   if c=10 then dM f r (line + 1) acc
   else if c=32∨c=9∨c=13 then dM f r line acc
   else if [47,47].isPrefixOf (c ::r) then dM f ((c ::r).dropWhile (· != 10)) line acc
   else if (first (c ::r)).1=0 then dM f ((c ::r).drop (first (c ::r)).2.2.length) line (acc++[⟨(first (c ::r)).2.1,(first (c ::r)).2.2,line⟩])
   else ([],(first (c ::r)).1,line)
def scan (l:List UInt8):List Tok × Nat × Nat:=
 if 4096 < l.length then ([],2,0) else dM l.length l 1 []
def Tok.cells (t:Tok):List Value:=[.int .i64 t.kind,.string ⟨t.text.toArray⟩,.int .i64 t.line]
def cellsOf (l:List Tok):List Value:=l.flatMap Tok.cells
end Go.Proofs.YtehnipchbmjlhaaGreatDoor.Tk
end
section
namespace Go.Proofs.YtehnipchbmjlhaaGreatDoor.Tk
theorem tK (p:UInt8→Bool): ∀(l:List UInt8) (n:Nat),n≤l.length→(∀j (h:j < l.length),j < n→p l[j]=true)→(∀h:n < l.length,p l[n]=false)→(l.takeWhile p).length=n
 | [],n,hn,_,_=>by simp at hn; simp [hn]
 | c ::l,0,_,_,h2=>by
   have:=h2 (by simp)
   simp only [List.getElem_cons_zero] at this
   simp [this]
 | c ::l,n + 1,hn,h1,h2=>by
   have h0:=h1 0 (by simp) (by omega)
   simp only [List.getElem_cons_zero] at h0
   rw [List.takeWhile_cons,if_pos h0,List.length_cons]
   congr 1
   refine tK p l n (by simpa using hn) (fun j h hj=> ?_) (fun h=> ?_)
   ·have:=h1 (j + 1) (by simpa using h) (by omega)
    simpa using this
   ·have:=h2 (by simpa using h)
    simpa using this
theorem take_takeWhile (p:UInt8→Bool): ∀(l:List UInt8),l.take (l.takeWhile p).length=l.takeWhile p
 | []=>rfl
 | c ::l=>by
   rw [List.takeWhile_cons]
   split
   ·simp [take_takeWhile p l]
   ·rfl
theorem mg (p:UInt8→Bool): ∀(l:List UInt8),l.drop (l.takeWhile p).length=l.dropWhile p
 | []=>rfl
 | c ::l=>by
   rw [List.takeWhile_cons,List.dropWhile_cons]
   split
   ·simp [mg p l]
   ·rfl
theorem sJ (p:UInt8→Bool): ∀l:List UInt8,(l.takeWhile p).length≤l.length
 | []=>Nat.le_refl _
 | c ::l=>by
   rw [List.takeWhile_cons]
   have:=sJ p l
   split <;> simp <;> omega
theorem uI (c:UInt8): ∀l:List UInt8,Lib.indexByte l c=if (l.takeWhile (· != c)).length < l.length then ((l.takeWhile (· != c)).length:Int) else -1
 | []=>rfl
 | b ::l=>by
   unfold Lib.indexByte
   rw [uI c l,List.takeWhile_cons]
   by_cases h:b=c
   ·subst h; simp
   ·have h1:(b == c)=false:=by simpa using h
    have h2:(b != c)=true:=by simpa using h
    rw [h1,h2,if_pos rfl,if_neg (by simp),List.length_cons,List.length_cons]
    generalize (l.takeWhile (· != c)).length=n
    by_cases h3:n < l.length
    ·have h4:n + 1 < l.length + 1:=by omega
     have h5:((n:Int) == -1)=false:=by simp
     simp [h3,h5]
    ·have h4: ¬ n + 1 < l.length + 1:=by omega
     simp [h3]
def wN (l:List UInt8):Nat:=(l.takeWhile (· != 10)).length
theorem Pk (l:List UInt8):wN l≤l.length:=sJ _ _
theorem Yf (l:List UInt8) (h:0≤Lib.indexByte l 10):Lib.indexByte l 10=wN l:=by
 rw [uI] at h ⊢
 by_cases h3:(l.takeWhile (· != 10)).length < l.length
 ·rw [if_pos h3]; rfl
 ·rw [if_neg h3] at h; omega
theorem Xt (l:List UInt8) (h:Lib.indexByte l 10 < 0):l.length=wN l:=by
 rw [uI] at h
 by_cases h3:(l.takeWhile (· != 10)).length < l.length
 ·rw [if_pos h3] at h; omega
 ·have:=sJ (· != 10) l
  unfold wN; omega
def kN (t s:ByteArray):Prop:=t.data.toList.dropWhile (· == 48)=s.data.toList.dropWhile (· == 48)
theorem kN.refl (s:ByteArray):kN s s:=rfl
theorem pF (t:ByteArray) (h:0 < t.size):t.data.toList=t[0] ::t.data.toList.drop 1:=by
 have h':0 < t.data.toList.length:=by rw [← Lib.size_eq]; exact h
 have:=List.drop_eq_getElem_cons h'
 rw [List.drop_zero] at this
 exact this
theorem kN.step {t s:ByteArray} (h:kN t s) (h0:0 < t.size) (he:t[0]=48):kN (t.extract 1 t.size) s:=by
 unfold kN at h ⊢
 rw [Lib.extract_data,← h]
 conv=>rhs; rw [pF t h0]
 rw [List.dropWhile_cons,if_pos (by rw [he]; rfl),List.take_of_length_le (by simp)]
theorem kN.done {t s:ByteArray} (h:kN t s) (he: ∀h0:0 < t.size,t[0]≠48):t=⟨(s.data.toList.dropWhile (· == 48)).toArray⟩:=by
 unfold kN at h
 rw [← h]
 have e:t.data.toList.dropWhile (· == 48)=t.data.toList:=by
  by_cases h0:0 < t.size
  ·rw [pF t h0,List.dropWhile_cons,if_neg (by simpa using he h0)]
  ·have:t.data.toList.length=0:=by rw [← Lib.size_eq]; omega
   rw [List.eq_nil_of_length_eq_zero this]; rfl
 rw [e]
end Go.Proofs.YtehnipchbmjlhaaGreatDoor.Tk
end
section
namespace Go.Proofs.YtehnipchbmjlhaaGreatDoor
open Go.RowKit
theorem AX (w:World) (cs:List Value) (t:TypeId) (k:Nat):(w.alloc (.cells cs.toArray t)).cell? ⟨w.heap.size,k,none⟩=cs[k]?:=by
 rw [cell_of_row _ w.heap.size k cs.toArray t (0,0) (heap_alloc_new w _)]
 simp
end Go.Proofs.YtehnipchbmjlhaaGreatDoor
end
section
namespace Go.Proofs.YtehnipchbmjlhaaGreatDoor
open Go.RowKit
def vK (k:Nat):List UInt8:=Tk.vo.getD k []
def Fj (k:Nat):ByteArray:=⟨(vK k).toArray⟩
theorem Jl (k:Nat) (h:k < Tk.vo.length):vK k=Tk.vo[k]:=by unfold vK; simp [h]
theorem bG {a b:Bool} (h:a=b):Ending.returned (.bool a)= .returned (.bool b):=by rw [h]
theorem KU {k:IntKind} {a b:Int} (h:a=b):Ending.returned (.int k a)= .returned (.int k b):=by rw [h]
def BD:Array Value:=(Tk.vo.map fun l=>Value.string ⟨l.toArray⟩).toArray
def dL (w:World):Prop:= ∃t fr,w.heap[0]? =some (.cells BD t fr)
theorem dL.below {B:Nat} {w w':World} (h:dL w) (hb:Below B w w') (hB:0 < B):dL w':=by
 obtain ⟨t,fr,h⟩:=h
 exact ⟨t,fr,(hb.block _ hB).trans h⟩
theorem dL.lt {w:World} (h:dL w):0 < w.heap.size:=by
 obtain ⟨t,fr,h⟩:=h
 exact (Array.getElem?_eq_some_iff.1 h).1
theorem dL.same {w w':World} (h:dL w) (hb:Below w.heap.size w w'):dL w':=h.below hb h.lt
theorem dL.alloc {w:World} (h:dL w) (o:Obj):dL (w.alloc o):=h.same ((Below.refl _ _).alloc (Nat.le_refl _) o)
theorem Sg (k:Nat) (hk:k < 22) (w:World):(Instr.index 150 (.agg BD) (.int .i64 (k:Int))).run Tryz.prog w= .ok (.string (Fj k)) w:=by
 rcases (show k=0∨k=1∨k=2∨k=3∨k=4∨k=5∨k=6∨k=7∨k=8∨k=9∨k=10∨k=11∨k=12∨k=13∨k=14∨k=15∨k=16∨k=17∨k=18∨k=19∨k=20∨k=21 by omega) with rfl | rfl | rfl | rfl | rfl | rfl | rfl | rfl | rfl | rfl | rfl | rfl | rfl | rfl | rfl | rfl | rfl | rfl | rfl | rfl | rfl | rfl <;> kernel_rfl
theorem Ci (k:Nat):(Fj k).toList=vK k:=by
 unfold Fj; rw [Lib.toList_data]
theorem P7 (k:Nat) (hk:k < 22) (l:List UInt8) (h:(l == vK k)=true):Tk.jB l=true:=by
 have hl:Tk.vo.length=22:=rfl
 unfold Tk.jB
 rw [List.contains_iff_mem,show l=vK k from by simpa using h,Jl _ (by omega)]
 exact List.getElem_mem _
theorem Un (l:List UInt8) (h: ∀k < 22,(l == vK k)=false):Tk.jB l=false:=by
 have hl:Tk.vo.length=22:=rfl
 unfold Tk.jB
 rw [Bool.eq_false_iff]
 intro hc
 rw [List.contains_iff_mem] at hc
 obtain ⟨k,hk,e⟩:=List.getElem_of_mem hc
 have:=h k (by omega)
 rw [Jl _ hk,e] at this
 simp at this
def Ib (l:List UInt8) (k:Nat):Prop:= ∀j < k,(l == vK j)=false
theorem Ib.step {l:List UInt8} {k:Nat} (h:Ib l k) (hk:(l == vK k)=false):Ib l (k + 1):=by
 intro j hj
 by_cases e:j=k
 ·subst e; exact hk
 ·exact h j (by omega)
set_option maxHeartbeats 400000 in
theorem tF (s:ByteArray) (w:World) (h:dL w):
 Calls Tryz.prog 71 #[.string s] w fun e w'=>e= .returned (.bool (Tk.jB s.data.toList))∧w=w':=by
 obtain ⟨t,fr,hg⟩:=h
 rw [← Lib.toList_data]
 go_enter Tryz.func71,Tryz.ntmps71
 go_wp2_with (refine wpList_load_row rfl 150 _ rfl 0 rfl t _ fr _ hg Tryz.underlying150 rfl (by kernel_rfl) ?_)
 clear hg
 go_loop [6] (fun i=> ∃k:Nat,k≤22∧i= .int .i64 k∧Ib s.toList k) (fun i=>22 - (intOf i).toNat)
 case atStart=>exact ⟨0,Nat.zero_le _,rfl,fun j hj=>absurd hj (by omega)⟩
 case round=>
  obtain ⟨k,hk,rfl,hno⟩:=hrel
  by_cases hlt:k < 22
  ·have hix:=Sg k hlt
   have hat:=Ci k
   by_cases he:(s.toList == vK k)=true
   ·go_wp2
    go_ret
    exact ⟨bG (P7 k hlt _ he).symm,rfl⟩
   ·have he':(s.toList == vK k)=false:=by simpa using he
    clear he
    go_wp2
    go_round
    case rel=>exact ⟨k + 1,by omega,by go_num,hno.step he'⟩
    case measure=>simp [intOf]; omega
  ·obtain rfl:k=22:=by omega
   go_wp2
   go_ret
   exact ⟨bG (Un _ hno).symm,rfl⟩
end Go.Proofs.YtehnipchbmjlhaaGreatDoor
end
section
namespace Go.Proofs.YtehnipchbmjlhaaGreatDoor
open Go.RowKit
theorem Y8 (c:UInt8):Tk.dP c=((Tk.lK c || Tk.bW c) || ((c.toNat:Int) == 95)):=rfl
theorem Iw (c:UInt8) (h:Tk.lK c=true):Tk.dP c=true:=by rw [Y8,h]; rfl
theorem xC (c:UInt8):(Tk.dP c=true∧Tk.lU (c.toNat:Int)=true)∨(Tk.dP c=true∧Tk.lU (c.toNat:Int)=false∧Tk.iU (c.toNat:Int)=true)∨
 (Tk.dP c=true∧Tk.lU (c.toNat:Int)=false∧Tk.iU (c.toNat:Int)=false∧((c.toNat:Int) == 95)=true)∨
 (Tk.dP c=false∧Tk.lU (c.toNat:Int)=false∧Tk.iU (c.toNat:Int)=false∧((c.toNat:Int) == 95)=false):=by
 have e:Tk.dP c=((Tk.lU (c.toNat:Int) || Tk.iU (c.toNat:Int)) || ((c.toNat:Int) == 95)):=rfl
 rw [e]
 cases Tk.lU (c.toNat:Int) <;> cases Tk.iU (c.toNat:Int) <;> cases ((c.toNat:Int) == 95) <;> simp
end Go.Proofs.YtehnipchbmjlhaaGreatDoor
end
section
namespace Go.Proofs.YtehnipchbmjlhaaGreatDoor.Tk
theorem rD (c:UInt8):bW c=true↔48≤c.toNat∧c.toNat≤57:=by
 unfold bW iU
 simp only [Bool.and_eq_true,decide_eq_true_eq]
 omega
theorem GD (l:List UInt8): ∀n:Nat,l.foldl (fun n c=>10 * n + (c.toNat - 48)) n=n * 10 ^ l.length + val l:=by
 induction l with
 | nil=>intro n; simp [val]
 | cons c l ih=>
   intro n
   have h0:=ih (10 * 0 + (c.toNat - 48))
   have h1:=ih (10 * n + (c.toNat - 48))
   unfold val
   simp only [List.foldl_cons]
   rw [h1,h0,List.length_cons,Nat.pow_succ]
   simp only [Nat.mul_zero,Nat.zero_add,Nat.add_mul]
   rw [Nat.add_assoc,Nat.mul_comm 10 n,Nat.mul_assoc,Nat.mul_comm 10]
theorem oP (c:UInt8) (l:List UInt8):val (c ::l)=(c.toNat - 48) * 10 ^ l.length + val l:=by
 have:=GD l (10 * 0 + (c.toNat - 48))
 unfold val at *
 simp only [List.foldl_cons]
 rw [this]
 simp
theorem yM: ∀(l:List UInt8),l.all bW=true→val l < 10 ^ l.length
 | [],_=>by simp [val]
 | c ::l,h=>by
   rw [List.all_cons,Bool.and_eq_true,rD] at h
   have:=yM l h.2
   rw [oP,List.length_cons,Nat.pow_succ]
   have h9:(c.toNat - 48) * 10 ^ l.length≤9 * 10 ^ l.length:=Nat.mul_le_mul_right _ (by omega)
   omega
theorem XJ (c:UInt8) (l:List UInt8) (h:bW c=true) (h0:c≠48):10 ^ l.length≤val (c ::l):=by
 rw [rD] at h
 have hc:c.toNat≠48:=fun e=>h0 (UInt8.toNat_inj.1 e)
 rw [oP]
 have:1 * 10 ^ l.length≤(c.toNat - 48) * 10 ^ l.length:=Nat.mul_le_mul_right _ (by omega)
 omega
theorem zf: ∀l:List UInt8,val (l.dropWhile (· == 48))=val l
 | []=>rfl
 | c ::l=>by
   rw [List.dropWhile_cons]
   split
   ·rename_i h
    have:c=48:=by simpa using h
    subst this
    rw [zf l,oP]
    simp
   ·rfl
theorem zu (p q:UInt8→Bool): ∀l:List UInt8,l.all p=true→(l.dropWhile q).all p=true
 | [],_=>rfl
 | c ::l,h=>by
   rw [List.dropWhile_cons]
   split
   ·rw [List.all_cons,Bool.and_eq_true] at h
    exact zu p q l h.2
   ·exact h
theorem Jy: ∀(a b:List UInt8),a.all bW=true→b.all bW=true→a.length=b.length→Op.bytesLess a b=decide (val a < val b)
 | [],[],_,_,_=>rfl
 | a ::x,b ::y,ha,hb,hl=>by
   rw [List.all_cons,Bool.and_eq_true] at ha hb
   have hl':x.length=y.length:=by simpa using hl
   have ih:=Jy x y ha.2 hb.2 hl'
   have hx:=yM x ha.2
   have hy:=yM y hb.2
   have h1:=(rD a).1 ha.1
   have h2:=(rD b).1 hb.1
   unfold Op.bytesLess
   rw [ih,oP,oP,hl']
   rw [hl'] at hx
   generalize 10 ^ y.length=T at *
   rcases Nat.lt_trichotomy a.toNat b.toNat with h | h | h
   ·have e1:a < b:=UInt8.lt_iff_toNat_lt.2 h
    have:(a.toNat - 48) * T + T≤(b.toNat - 48) * T:=by
     have:=Nat.mul_le_mul_right T (show a.toNat - 48 + 1≤b.toNat - 48 by omega)
     rwa [Nat.add_mul,Nat.one_mul] at this
    have e2:(a.toNat - 48) * T + val x < (b.toNat - 48) * T + val y:=by omega
    simp [e1,e2]
   ·have e1:a=b:=UInt8.toNat_inj.1 h
    subst e1
    have e2: ¬ a < a:=by rw [UInt8.lt_iff_toNat_lt]; omega
    simp
   ·have e1: ¬ a < b:=by rw [UInt8.lt_iff_toNat_lt]; omega
    have e2:a≠b:=fun e=>by rw [e] at h; omega
    have:(b.toNat - 48) * T + T≤(a.toNat - 48) * T:=by
     have:=Nat.mul_le_mul_right T (show b.toNat - 48 + 1≤a.toNat - 48 by omega)
     rwa [Nat.add_mul,Nat.one_mul] at this
    have e3: ¬ (a.toNat - 48) * T + val x < (b.toNat - 48) * T + val y:=by omega
    simp [e1,e2,e3]
 | [],_ ::_,_,_,h=>by simp at h
 | _ ::_,[],_,_,h=>by simp at h
theorem val_inj: ∀(a b:List UInt8),a.all bW=true→b.all bW=true→a.length=b.length→val a=val b→a=b
 | [],[],_,_,_,_=>rfl
 | a ::x,b ::y,ha,hb,hl,hv=>by
   rw [List.all_cons,Bool.and_eq_true] at ha hb
   have hl':x.length=y.length:=by simpa using hl
   have hx:=yM x ha.2
   have hy:=yM y hb.2
   have h1:=(rD a).1 ha.1
   have h2:=(rD b).1 hb.1
   have hv':=hv
   rw [oP,oP,hl'] at hv
   rw [hl'] at hx
   have hab:a.toNat=b.toNat:=by
    generalize 10 ^ y.length=T at *
    rcases Nat.lt_trichotomy a.toNat b.toNat with h | h | h
    ·have:=Nat.mul_le_mul_right T (show a.toNat - 48 + 1≤b.toNat - 48 by omega)
     rw [Nat.add_mul,Nat.one_mul] at this
     omega
    ·exact h
    ·have:=Nat.mul_le_mul_right T (show b.toNat - 48 + 1≤a.toNat - 48 by omega)
     rw [Nat.add_mul,Nat.one_mul] at this
     omega
   obtain rfl:a=b:=UInt8.toNat_inj.1 hab
   rw [val_inj x y ha.2 hb.2 hl' (by omega)]
 | [],_ ::_,_,_,h,_=>by simp at h
 | _ ::_,[],_,_,h,_=>by simp at h
def great:List UInt8:=[57,50,50,51,51,55,50,48,51,54,56,53,52,55,55,53,56,48,55]
theorem vZ:val great=9223372036854775807:=by decide
theorem FM:great.all bW=true:=by decide
theorem G7:great.length=19:=rfl
theorem Ns (l:List UInt8) (h:l.all bW=true) (hl:19 < (l.dropWhile (· == 48)).length):jo l=false:=by
 have ht:=zu bW (· == 48) l h
 unfold jo
 rw [← zf l]
 have hh: ∀c r,l.dropWhile (· == 48)=c ::r→c≠48:=by
  intro c r e
  have:=List.head?_dropWhile_not (· == 48) l
  rw [e] at this
  simpa using this
 generalize l.dropWhile (· == 48)=t at *
 match t,hl,ht,hh with
 | c ::r,hl,ht,hh=>
   rw [List.all_cons,Bool.and_eq_true] at ht
   have h1:=XJ c r ht.1 (hh c r rfl)
   have h2:10 ^ 19≤10 ^ r.length:=Nat.pow_le_pow_right (by omega) (by simp at hl; omega)
   have h3:(10:Nat) ^ 19=10000000000000000000:=rfl
   rw [h3] at h2
   simp only [decide_eq_false_iff_not]
   omega
theorem Kr (l:List UInt8) (h:l.all bW=true) (hl:(l.dropWhile (· == 48)).length < 19):jo l=true:=by
 have ht:=zu bW (· == 48) l h
 unfold jo
 rw [← zf l]
 generalize l.dropWhile (· == 48)=t at *
 have h1:=yM t ht
 have h2:10 ^ t.length≤10 ^ 18:=Nat.pow_le_pow_right (by omega) (by omega)
 have h3:(10:Nat) ^ 18=1000000000000000000:=rfl
 rw [h3] at h2
 simp only [decide_eq_true_eq]
 omega
theorem QU (l:List UInt8) (h:l.all bW=true) (hl:(l.dropWhile (· == 48)).length=19):
 (!(Op.bytesLess (l.dropWhile (· == 48)) great || (l.dropWhile (· == 48)) == great))= !jo l:=by
 have ht:=zu bW (· == 48) l h
 unfold jo
 rw [← zf l]
 generalize l.dropWhile (· == 48)=t at *
 rw [Jy t great ht FM (by rw [hl,G7]),vZ]
 congr 1
 by_cases e:val t=9223372036854775807
 ·have:t=great:=val_inj t great ht FM (by rw [hl,G7]) (by rw [e,vZ])
  rw [this,vZ]
  simp
 ·have hne:(t == great)=false:=by
   rw [beq_eq_false_iff_ne]
   intro e'
   rw [e',vZ] at e
   exact e rfl
  rw [hne,Bool.or_false,decide_eq_decide]
  omega
def mP:List (List UInt8):=[[124,124],[38,38],[61,61],[33,61],[60,61],[62,61]]
def C9:List UInt8:=[60,62,43,45,42,47,37,33,61,40,41,91,93,123,125,44,59]
theorem Yb:nP=mP++C9.map fun c=>[c]:=rfl
theorem CU (n:Nat) (l:List UInt8): ∀gs:List (List UInt8),(∀g ∈ gs,g.length=n)→gs.find? (fun g=>g.isPrefixOf l)=if gs.contains (l.take n) then some (l.take n) else none
 | [],_=>rfl
 | g ::gs,h=>by
   have hg:g.length=n:=h g (List.mem_cons_self ..)
   have ih:=CU n l gs fun x hx=>h x (List.mem_cons_of_mem _ hx)
   rw [List.find?_cons,ih,List.contains_cons]
   by_cases e:g.isPrefixOf l=true
   ·have e1:l.take n=g:=by
     obtain ⟨r,rfl⟩:=List.isPrefixOf_iff_prefix.1 e
     rw [← hg]; simp
    rw [e,e1]
    simp
   ·have e0:g.isPrefixOf l=false:=Bool.eq_false_iff.2 e
    have e1:(l.take n == g)=false:=by
     rw [beq_eq_false_iff_ne]
     intro e2
     exact e (List.isPrefixOf_iff_prefix.2 (e2 ▸ List.take_prefix _ _))
    rw [e0,e1]
    simp
theorem nZ (l:List UInt8):eX l=if mP.contains (l.take 2) then l.take 2 else if (C9.map fun c=>[c]).contains (l.take 1) then l.take 1 else []:=by
 unfold eX
 rw [Yb,List.find?_append,CU 2 l mP (by decide),CU 1 l (C9.map fun c=>[c]) (by decide)]
 split
 ·rfl
 ·split <;> rfl
theorem Jz (a:UInt8):(C9.map fun c=>[c]).contains [a]=C9.contains a:=by
 simp [C9]
theorem xP (c:UInt8): ∀l:List UInt8,l.contains c=decide (0≤Lib.indexByte l c)
 | []=>rfl
 | b ::l=>by
   have ih:=xP c l
   have hg:=Lib.indexByte_ge l c
   have hc:Lib.indexByte (b ::l) c=if b == c then 0 else if Lib.indexByte l c == -1 then -1 else Lib.indexByte l c + 1:=rfl
   rw [List.contains_cons,ih,hc]
   by_cases h:b=c
   ·subst h; simp
   ·have h1:(b == c)=false:=by simpa using h
    have h2:(c == b)=false:=by simpa using Ne.symm h
    rw [h1,h2]
    simp only [Bool.false_or,Bool.false_eq_true,if_false,decide_eq_decide]
    by_cases h3:Lib.indexByte l c= -1
    ·simp [h3]
    ·rw [if_neg (by simpa using h3)]
     omega
end Go.Proofs.YtehnipchbmjlhaaGreatDoor.Tk
end
section
namespace Go.Proofs.YtehnipchbmjlhaaGreatDoor.Tk
theorem iV (f line:Nat) (acc:List Tok):dM f [] line acc=(acc,0,0):=by cases f <;> rfl
theorem IQ (p:UInt8→Bool) (c:UInt8) (r:List UInt8) (h:p c=true):1≤((c ::r).takeWhile p).length:=by
 rw [List.takeWhile_cons,if_pos h]; simp
theorem Fh (c:UInt8) (h:lK c=true):dP c=true:=by
 have e:dP c=((lK c || bW c) || ((c.toNat:Int) == 95)):=rfl
 rw [e,h]; rfl
theorem pU (c:UInt8) (r:List UInt8) (h:(first (c ::r)).1=0):1≤(first (c ::r)).2.2.length∧(first (c ::r)).2.2.length≤(c ::r).length∧(c ::r).take (first (c ::r)).2.2.length=(first (c ::r)).2.2:=by
 have hh:(c ::r).headD 0=c:=rfl
 unfold first at h ⊢
 rw [hh] at h ⊢
 by_cases hL:lK c=true
 ·rw [if_pos hL] at h ⊢
  unfold jU at h ⊢
  by_cases h12:12 < ((c ::r).takeWhile dP).length
  ·rw [if_pos h12] at h; cases h
  ·rw [if_neg h12]
   exact ⟨IQ _ _ _ (Fh c hL),sJ _ _,take_takeWhile _ _⟩
 ·rw [if_neg hL] at h ⊢
  by_cases hD:bW c=true
  ·rw [if_pos hD] at h ⊢
   unfold nV at h ⊢
   split at h
   ·cases h
   ·rename_i h2
    rw [if_neg h2]
    exact ⟨IQ _ _ _ hD,sJ _ _,take_takeWhile _ _⟩
  ·rw [if_neg hD] at h ⊢
   unfold qy at h ⊢
   split at h
   ·cases h
   ·rename_i h2
    rw [if_neg h2]
    have hlen:eX (c ::r)≠[]:=fun e=>h2 (by rw [e]; rfl)
    refine ⟨?_,?_,?_⟩
    ·cases hs:eX (c ::r) with
     | nil=>exact absurd hs hlen
     | cons a b=>simp
    ·show (eX (c ::r)).length≤_
     rw [nZ]; split
     ·rw [List.length_take]; omega
     ·split
      ·rw [List.length_take]; omega
      ·simp
    ·show (c ::r).take (eX (c ::r)).length=eX (c ::r)
     rw [nZ]; split
     ·rw [List.length_take,List.take_eq_take_iff]; omega
     ·split
      ·rw [List.length_take,List.take_eq_take_iff]; omega
      ·rfl
theorem mX (f:Nat) (r:List UInt8) (line:Nat) (acc:List Tok):dM (f + 1) (10 ::r) line acc=dM f r (line + 1) acc:=by
 rw [dM,if_pos rfl]
theorem lQ (f:Nat) (c:UInt8) (r:List UInt8) (line:Nat) (acc:List Tok) (h:c=32∨c=9∨c=13):dM (f + 1) (c ::r) line acc=dM f r line acc:=by
 have h1:c≠10:=by rcases h with rfl | rfl | rfl <;> decide
 rw [dM,if_neg h1,if_pos h]
theorem pq (f:Nat) (c:UInt8) (r:List UInt8) (line:Nat) (acc:List Tok) (h1:c≠10) (h2: ¬ (c=32∨c=9∨c=13)) (h3:[47,47].isPrefixOf (c ::r)=true):dM (f + 1) (c ::r) line acc=dM f ((c ::r).dropWhile (· != 10)) line acc:=by
 rw [dM,if_neg h1,if_neg h2,if_pos h3]
theorem kL (f:Nat) (c:UInt8) (r:List UInt8) (line:Nat) (acc:List Tok) (h1:c≠10) (h2: ¬ (c=32∨c=9∨c=13)) (h3:[47,47].isPrefixOf (c ::r)=false) (h4:(first (c ::r)).1=0):
 dM (f + 1) (c ::r) line acc=dM f ((c ::r).drop (first (c ::r)).2.2.length) line (acc++[⟨(first (c ::r)).2.1,(first (c ::r)).2.2,line⟩]):=by
 rw [dM,if_neg h1,if_neg h2,if_neg (by rw [h3]; decide),if_pos h4]
theorem pQ (f:Nat) (c:UInt8) (r:List UInt8) (line:Nat) (acc:List Tok) (h1:c≠10) (h2: ¬ (c=32∨c=9∨c=13)) (h3:[47,47].isPrefixOf (c ::r)=false) (h4:(first (c ::r)).1≠0):
 dM (f + 1) (c ::r) line acc=([],(first (c ::r)).1,line):=by
 rw [dM,if_neg h1,if_neg h2,if_neg (by rw [h3]; decide),if_neg h4]
def SP (l:List UInt8) (R:List Tok × Nat × Nat) (k line:Nat) (acc:List Tok):Prop:=
 k≤l.length∧line≤k + 1∧acc.length≤k∧ ∃f,(l.drop k).length≤f∧dM f (l.drop k) line acc=R
theorem SP.start (l:List UInt8):SP l (dM l.length l 1 []) 0 1 []:=⟨Nat.zero_le _,Nat.le_refl _,Nat.le_refl _,l.length,Nat.le_refl _,rfl⟩
section
variable {l:List UInt8} {R:List Tok × Nat × Nat} {k line:Nat} {acc:List Tok}
theorem SP.cut (h:SP l R k line acc) (hk:k < l.length): ∃f,(l.drop (k + 1)).length≤f∧dM (f + 1) (l[k] ::l.drop (k + 1)) line acc=R:=by
 obtain ⟨_,_,_,f,hf,hR⟩:=h
 rw [List.drop_eq_getElem_cons hk] at hf hR
 cases f with
 | zero=>simp at hf; omega
 | succ f=>exact ⟨f,by rw [List.length_cons] at hf; omega,hR⟩
theorem SP.nl (h:SP l R k line acc) (hk:k < l.length) (hc:l[k]=10):SP l R (k + 1) (line + 1) acc:=by
 obtain ⟨f,hf,hR⟩:=h.cut hk
 rw [hc,mX] at hR
 exact ⟨hk,by have:=h.2.1; omega,by have:=h.2.2.1; omega,f,hf,hR⟩
theorem SP.blank (h:SP l R k line acc) (hk:k < l.length) (hc:l[k]=32∨l[k]=9∨l[k]=13):SP l R (k + 1) line acc:=by
 obtain ⟨f,hf,hR⟩:=h.cut hk
 rw [lQ _ _ _ _ _ hc] at hR
 exact ⟨hk,by have:=h.2.1; omega,by have:=h.2.2.1; omega,f,hf,hR⟩
theorem SP.wN (h:SP l R k line acc) (hk:k < l.length) (h1:l[k]≠10) (h2: ¬ (l[k]=32∨l[k]=9∨l[k]=13)) (h3:[47,47].isPrefixOf (l.drop k)=true):SP l R (k + Tk.wN (l.drop k)) line acc∧1≤Tk.wN (l.drop k):=by
 obtain ⟨f,hf,hR⟩:=h.cut hk
 have e:=List.drop_eq_getElem_cons hk
 rw [e] at h3
 rw [pq _ _ _ _ _ h1 h2 h3,← e,← mg,List.drop_drop] at hR
 have hle:=Pk (l.drop k)
 rw [List.length_drop] at hle
 have h1':1≤Tk.wN (l.drop k):=by
  unfold Tk.wN; rw [e]
  exact IQ (· != 10) _ _ (by simpa using h1)
 refine ⟨⟨by omega,by have:=h.2.1; omega,by have:=h.2.2.1; omega,f,?_,hR⟩,h1'⟩
 rw [List.length_drop] at hf ⊢
 omega
theorem SP.tok (h:SP l R k line acc) (hk:k < l.length) (h1:l[k]≠10) (h2: ¬ (l[k]=32∨l[k]=9∨l[k]=13)) (h3:[47,47].isPrefixOf (l.drop k)=false) (h4:(first (l.drop k)).1=0):
 SP l R (k + (first (l.drop k)).2.2.length) line (acc++[⟨(first (l.drop k)).2.1,(first (l.drop k)).2.2,line⟩])∧1≤(first (l.drop k)).2.2.length:=by
 obtain ⟨f,hf,hR⟩:=h.cut hk
 have e:=List.drop_eq_getElem_cons hk
 rw [e] at h3 h4
 have hl:=pU _ _ h4
 rw [kL _ _ _ _ _ h1 h2 h3 h4,← e,List.drop_drop] at hR
 rw [← e] at hl h4
 rw [List.length_drop] at hl
 refine ⟨⟨by omega,by have:=h.2.1; omega,?_,f,?_,hR⟩,hl.1⟩
 ·rw [List.length_append]; have:=h.2.2.1; simp; omega
 ·rw [List.length_drop] at hf ⊢
  omega
theorem SP.err (h:SP l R k line acc) (hk:k < l.length) (h1:l[k]≠10) (h2: ¬ (l[k]=32∨l[k]=9∨l[k]=13)) (h3:[47,47].isPrefixOf (l.drop k)=false) (h4:(first (l.drop k)).1≠0):
 R=([],(first (l.drop k)).1,line):=by
 obtain ⟨f,hf,hR⟩:=h.cut hk
 have e:=List.drop_eq_getElem_cons hk
 rw [e] at h3 h4
 rw [pQ _ _ _ _ _ h1 h2 h3 h4,← e] at hR
 exact hR.symm
theorem SP.done (h:SP l R k line acc) (hk: ¬ k < l.length):R=(acc,0,0):=by
 obtain ⟨_,_,_,f,hf,hR⟩:=h
 rw [List.drop_of_length_le (by omega),iV] at hR
 exact hR.symm
end
theorem Ao (l m:List Tok):cellsOf (l++m)=cellsOf l++cellsOf m:=by unfold cellsOf; rw [List.flatMap_append]
theorem cells_one (t:Tok):cellsOf [t]=t.cells:=by unfold cellsOf; simp
end Go.Proofs.YtehnipchbmjlhaaGreatDoor.Tk
end
section
namespace Go.Proofs.YtehnipchbmjlhaaGreatDoor.Tk
def Sep (b:UInt8):Prop:=dP b=false∧b≠61∧b≠124∧b≠38∧b≠47
theorem ZH:Sep 32:=by unfold Sep; decide
theorem ZV:Sep 10:=by unfold Sep; decide
theorem Sep.Y5 {b:UInt8} (h:Sep b):bW b=false:=by
 have:=h.1
 have e:dP b=((lK b || bW b) || ((b.toNat:Int) == 95)):=rfl
 rw [e] at this
 cases hd:bW b
 ·rfl
 ·rw [hd] at this; simp at this
theorem Kh (p:UInt8→Bool) (b:UInt8) (t:List UInt8) (hb:p b=false): ∀l:List UInt8,(l++b ::t).takeWhile p=l.takeWhile p
 | []=>by rw [List.nil_append,List.takeWhile_cons,hb]; rfl
 | c ::l=>by
   rw [List.cons_append,List.takeWhile_cons,List.takeWhile_cons,Kh p b t hb l]
theorem dw_head (p q:UInt8→Bool) (b:UInt8) (t:List UInt8) (hb:p b=false) (hq:q b=false): ∀l:List UInt8,((l++b ::t).dropWhile p).head?.any q=(l.dropWhile p).head?.any q
 | []=>by rw [List.nil_append,List.dropWhile_cons,hb]; simp [hq]
 | c ::l=>by
   rw [List.cons_append,List.dropWhile_cons,List.dropWhile_cons]
   split
   ·exact dw_head p q b t hb hq l
   ·rfl
theorem R3 (c:UInt8) (r:List UInt8) (b:UInt8) (t:List UInt8) (hb:Sep b):eX (c ::r++b ::t)=eX (c ::r):=by
 rw [nZ,nZ]
 cases r with
 | nil=>
   have h1:mP.contains ([c]++b ::t |>.take 2)=false:=by
    obtain ⟨_,h61,al2,h38,_⟩:=hb
    simp [mP,h61,al2,h38]
   have h2:mP.contains ([c].take 2)=false:=by simp [mP]
   rw [h1,h2]
   rfl
 | cons d r=>rfl
theorem Gu (c:UInt8) (r:List UInt8) (b:UInt8) (t:List UInt8) (hb:Sep b):first (c ::r++b ::t)=first (c ::r):=by
 unfold first jU nV qy
 rw [Kh dP b t hb.1,Kh bW b t hb.Y5,dw_head bW dP b t hb.Y5 hb.1,R3 c r b t hb]
 rfl
def qI (l:List UInt8):Nat:=l.count 10
theorem za (c:UInt8) (l:List UInt8):qI (c ::l)=qI l + if c=10 then 1 else 0:=by
 unfold qI; rw [List.count_cons]; simp
theorem Mt (l m:List UInt8):qI (l++m)=qI l + qI m:=by unfold qI; rw [List.count_append]
theorem JD: ∀l:List UInt8,qI (l.dropWhile (· != 10))=qI l
 | []=>rfl
 | c ::l=>by
   rw [List.dropWhile_cons]
   by_cases h:c=10
   ·subst h; rfl
   ·rw [if_pos (by simpa using h),JD l,za,if_neg h]; rfl
theorem EF (p:UInt8→Bool) (hp:p 10=false): ∀l:List UInt8,qI (l.takeWhile p)=0
 | []=>rfl
 | c ::l=>by
   rw [List.takeWhile_cons]
   split
   ·rename_i h
    rw [za,EF p hp l,if_neg (fun e=>by rw [e,hp] at h; cases h)]
   ·rfl
theorem P9 (c:UInt8) (r:List UInt8):qI (first (c ::r)).2.2=0:=by
 unfold first jU nV qy
 split
 ·split
  ·rfl
  ·exact EF dP (by decide) _
 ·split
  ·split
   ·rfl
   ·exact EF bW (by decide) _
  ·split
   ·rfl
   ·show qI (eX _)=0
    unfold eX
    have: ∀g ∈ nP,qI g=0:=by decide
    cases hf:nP.find? fun g=>g.isPrefixOf (c ::r) with
    | none=>rfl
    | some g=>exact this g (List.mem_of_find?_eq_some hf)
theorem OH (p:UInt8→Bool) (t:List UInt8): ∀l:List UInt8,l.dropWhile p=[]→(l++t).dropWhile p=t.dropWhile p
 | [],_=>rfl
 | c ::l,h=>by
   rw [List.dropWhile_cons] at h
   split at h
   ·rename_i hc
    rw [List.cons_append,List.dropWhile_cons,if_pos hc]
    exact OH p t l h
   ·cases h
theorem LX (p:UInt8→Bool) (t:List UInt8): ∀l:List UInt8,l.dropWhile p≠[]→(l++t).dropWhile p=l.dropWhile p++t
 | [],h=>absurd rfl h
 | c ::l,h=>by
   rw [List.dropWhile_cons] at h
   rw [List.cons_append,List.dropWhile_cons,List.dropWhile_cons]
   split
   ·rename_i hc
    rw [if_pos hc] at h
    exact LX p t l h
   ·rfl
theorem DU (p:UInt8→Bool): ∀l:List UInt8,(l.dropWhile p).length≤l.length
 | []=>Nat.le_refl _
 | c ::l=>by
   rw [List.dropWhile_cons]
   have:=DU p l
   split <;> simp <;> omega
theorem NH (b:UInt8) (t:List UInt8) (K:Nat→List Tok→List Tok × Nat × Nat) (hb:Sep b)
 (hK1: ∀f line acc,(b ::t).length≤f→dM f (b ::t) line acc=K line acc)
 (hK2: ∀f line acc,((b ::t).dropWhile (· != 10)).length≤f→dM f ((b ::t).dropWhile (· != 10)) line acc=K line acc):
 ∀(f g:Nat) (l:List UInt8) (line:Nat) (acc:List Tok),(l++b ::t).length≤f→l.length≤g→
  dM f (l++b ::t) line acc=if (dM g l line acc).2.1=0 then K (line + qI l) (dM g l line acc).1 else dM g l line acc:=by
 intro f
 induction f with
 | zero=>intro g l line acc hf; simp at hf
 | succ f ih=>
   intro g l line acc hf hg
   match l,hf,hg with
   | [],hf,_=>
     rw [iV,if_pos rfl]
     exact hK1 _ _ _ hf
   | c ::r,hf,hg=>
     cases g with
     | zero=>simp at hg
     | succ g=>
       have hf':(r++b ::t).length≤f:=by simpa using hf
       have hg':r.length≤g:=by simpa using hg
       have happ:(c ::r)++b ::t=c ::(r++b ::t):=rfl
       by_cases h10:c=10
       ·subst h10
        rw [happ,mX,mX,ih g r (line + 1) acc hf' hg',za,if_pos rfl]
        have e:line + 1 + qI r=line + (qI r + 1):=by omega
        rw [e]
       ·by_cases hbl:c=32∨c=9∨c=13
        ·rw [happ,lQ _ _ _ _ _ hbl,lQ _ _ _ _ _ hbl,ih g r line acc hf' hg',za,if_neg h10]
         rfl
        ·have hpre:[47,47].isPrefixOf (c ::(r++b ::t))=[47,47].isPrefixOf (c ::r):=by
          cases r with
          | nil=>
            have:(47 == b)=false:=by rw [beq_eq_false_iff_ne]; exact fun e=>hb.2.2.2.2 e.symm
            simp [List.isPrefixOf,this]
          | cons d r=>simp [List.isPrefixOf]
         cases hp:[47,47].isPrefixOf (c ::r)
         ·rw [hp] at hpre
          have hfe:=Gu c r b t hb
          rw [happ] at hfe
          by_cases he:(first (c ::r)).1=0
          ·have hl:=pU c r he
           rw [happ,kL _ _ _ _ _ h10 hbl hpre (by rw [hfe]; exact he),kL _ _ _ _ _ h10 hbl hp he,hfe,← happ,List.drop_append_of_le_length hl.2.1]
           have hnl:qI (c ::r)=qI ((c ::r).drop (first (c ::r)).2.2.length):=by
            have h1:=Mt ((c ::r).take (first (c ::r)).2.2.length) ((c ::r).drop (first (c ::r)).2.2.length)
            rw [List.take_append_drop,hl.2.2,P9] at h1
            omega
           rw [hnl]
           have hlen:((c ::r).drop (first (c ::r)).2.2.length).length≤r.length:=by
            rw [List.length_drop]; simp; omega
           refine ih g _ line _ ?_ (by omega)
           rw [List.length_append] at hf' ⊢
           omega
          ·rw [happ,pQ _ _ _ _ _ h10 hbl hpre (by rw [hfe]; exact he),pQ _ _ _ _ _ h10 hbl hp he,hfe,if_neg he]
         ·rw [hp] at hpre
          rw [happ,pq _ _ _ _ _ h10 hbl hpre,pq _ _ _ _ _ h10 hbl hp,← happ]
          have hne:(c != 10)=true:=by simpa using h10
          by_cases hd:(c ::r).dropWhile (· != 10)=[]
          ·rw [OH _ _ _ hd,hd,iV,if_pos rfl,← JD (c ::r),hd]
           refine hK2 f line acc ?_
           have:=DU (· != 10) (b ::t)
           rw [List.length_append] at hf'
           omega
          ·rw [LX _ _ _ hd,← JD (c ::r)]
           have hlen:((c ::r).dropWhile (· != 10)).length≤r.length:=by
            rw [List.dropWhile_cons,if_pos hne]; exact DU _ _
           refine ih g _ line acc ?_ (by omega)
           rw [List.length_append] at hf' ⊢
           omega
theorem Nv: ∀(f g:Nat) (l:List UInt8) (line:Nat) (acc:List Tok),l.length≤f→l.length≤g→dM f l line acc=dM g l line acc:=by
 intro f
 induction f with
 | zero=>
   intro g l line acc hf _
   have:l=[]:=List.eq_nil_of_length_eq_zero (by omega)
   rw [this,iV,iV]
 | succ f ih=>
   intro g l line acc hf hg
   match l,hf,hg with
   | [],_,_=>rw [iV,iV]
   | c ::r,hf,hg=>
     cases g with
     | zero=>simp at hg
     | succ g=>
       have hf':r.length≤f:=by simpa using hf
       have hg':r.length≤g:=by simpa using hg
       by_cases h10:c=10
       ·subst h10
        rw [mX,mX,ih g r (line + 1) acc hf' hg']
       ·by_cases hbl:c=32∨c=9∨c=13
        ·rw [lQ _ _ _ _ _ hbl,lQ _ _ _ _ _ hbl,ih g r line acc hf' hg']
        ·cases hp:[47,47].isPrefixOf (c ::r)
         ·by_cases he:(first (c ::r)).1=0
          ·have hl:=pU c r he
           rw [kL _ _ _ _ _ h10 hbl hp he,kL _ _ _ _ _ h10 hbl hp he]
           have hlen:((c ::r).drop (first (c ::r)).2.2.length).length≤r.length:=by
            rw [List.length_drop]; simp; omega
           exact ih g _ line _ (by omega) (by omega)
          ·rw [pQ _ _ _ _ _ h10 hbl hp he,pQ _ _ _ _ _ h10 hbl hp he]
         ·rw [pq _ _ _ _ _ h10 hbl hp,pq _ _ _ _ _ h10 hbl hp]
          have hne:(c != 10)=true:=by simpa using h10
          have hlen:((c ::r).dropWhile (· != 10)).length≤r.length:=by
           rw [List.dropWhile_cons,if_pos hne]; exact DU _ _
          exact ih g _ line acc (by omega) (by omega)
def sh (d:Nat) (t:Tok):Tok:=⟨t.kind,t.text,t.line + d⟩
theorem BN: ∀(f:Nat) (l:List UInt8) (line:Nat),∃(toks:List Tok) (e el:Nat),∀(acc:List Tok) (d:Nat),dM f l (line + d) acc=if e=0 then (acc++toks.map (sh d),0,0) else ([],e,el + d):=by
 intro f
 induction f with
 | zero=>
   intro l line
   refine ⟨[],0,0,fun acc d=> ?_⟩
   cases l <;> simp [dM]
 | succ f ih=>
   intro l line
   match l with
   | []=>exact ⟨[],0,0,fun acc d=>by simp [dM]⟩
   | c ::r=>
     by_cases h10:c=10
     ·subst h10
      obtain ⟨toks,e,el,h⟩:=ih r (line + 1)
      refine ⟨toks,e,el,fun acc d=> ?_⟩
      rw [mX,show line + d + 1=line + 1 + d from by omega,h]
     ·by_cases hbl:c=32∨c=9∨c=13
      ·obtain ⟨toks,e,el,h⟩:=ih r line
       exact ⟨toks,e,el,fun acc d=>by rw [lQ _ _ _ _ _ hbl,h]⟩
      ·cases hp:[47,47].isPrefixOf (c ::r)
       ·by_cases he:(first (c ::r)).1=0
        ·obtain ⟨toks,e,el,h⟩:=ih ((c ::r).drop (first (c ::r)).2.2.length) line
         refine ⟨⟨(first (c ::r)).2.1,(first (c ::r)).2.2,line⟩ ::toks,e,el,fun acc d=> ?_⟩
         rw [kL _ _ _ _ _ h10 hbl hp he,h]
         simp [sh]
        ·refine ⟨[],(first (c ::r)).1,line,fun acc d=> ?_⟩
         rw [pQ _ _ _ _ _ h10 hbl hp he,if_neg he]
       ·obtain ⟨toks,e,el,h⟩:=ih ((c ::r).dropWhile (· != 10)) line
        exact ⟨toks,e,el,fun acc d=>by rw [pq _ _ _ _ _ h10 hbl hp,h]⟩
theorem WA (l:List Tok):l.map (sh 0)=l:=by
 induction l with
 | nil=>rfl
 | cons a l ih=>rw [List.map_cons,ih]; rfl
end Go.Proofs.YtehnipchbmjlhaaGreatDoor.Tk
end
section
namespace Go.Proofs.YtehnipchbmjlhaaGreatDoor.Tk
def Good (kind:Nat) (x:List UInt8):Prop:=first x=(0,kind,x)∧(∃c r,x=c ::r∧c≠10∧ ¬ (c=32∨c=9∨c=13))∧[47,47].isPrefixOf x=false
theorem Mw: ∀g ∈ nP,first g=(0,4,g)∧g≠[]∧(g.headD 0≠10∧ ¬ (g.headD 0=32∨g.headD 0=9∨g.headD 0=13))∧[47,47].isPrefixOf g=false:=by decide
theorem xA (g:List UInt8) (h:g ∈ nP):Good 4 g:=by
 obtain ⟨h1,h2,h3,h4⟩:=Mw g h
 cases g with
 | nil=>exact absurd rfl h2
 | cons c r=>exact ⟨h1,⟨c,r,rfl,h3.1,h3.2⟩,h4⟩
theorem Ab (c:UInt8) (h:dP c=true):(47 == c)=false:=by
 rw [beq_eq_false_iff_ne]; rintro rfl; revert h; decide
theorem rR (c:UInt8) (r:List UInt8) (h:(47 == c)=false):[47,47].isPrefixOf (c ::r)=false:=by simp [List.isPrefixOf,h]
def mk1 (p:Nat × List UInt8):Tok:=⟨p.1,p.2,1⟩
end Go.Proofs.YtehnipchbmjlhaaGreatDoor.Tk
end
