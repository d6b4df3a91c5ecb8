/- Plain functions of the token layer: what a text's tokens are, over lists of bytes. No program in sight. And what hangs on it. -/
import Derived.Lib.Strings
import Derived.Lib.Bytealg
import Derived.Lib.TrimByte
import Derived.Laws.Strings
import Derived.Test.YtgjmahnblcajbaaGreatDoorChecked
import Derived.WalkKit
import Derived.WalkSpells
import Derived.WalkLawsBesides
import Derived.Lib.Walk
import Derived.Lib.Hide
import Derived.Deep.Light
import Derived.Laws.Strings2
set_option linter.unusedSimpArgs false
set_option linter.unusedVariables false
set_option maxHeartbeats 40000000
set_option maxRecDepth 1000000
section
namespace Go.Proofs.YtgjmahnblcajbaaGreatDoor.Tk
def oW (c:Int):Bool:=(decide (97<=c) && decide (c<=122)) || (decide (65<=c) && decide (c<=90))
def nX (c:Int):Bool:=decide (48<=c) && decide (c<=57)
def JX (c:Int):Bool:=(oW c || nX c) || c == 95
def xJ (c:UInt8):Bool:=oW c.toNat
def iX (c:UInt8):Bool:=nX c.toNat
def iF (c:UInt8):Bool:=JX c.toNat
def EN:List (List UInt8):=[[118,97,114],[118,111,108,97,116,105,108,101],[109,117,116,101,120],[114,119,108,111,99,107],[99,111,110,100],[102,117,116,117,114,101],[116,104,114,101,97,100],[105,102],[101,108,115,101],[119,104,105,108,101],[108,111,99,107],[114,101,97,100],[119,114,105,116,101],[116,114,97,110,115,97,99,116,105,111,110],[97,116,111,109,105,99],[119,97,105,116],[110,111,116,105,102,121],[110,111,116,105,102,121,97,108,108],[115,112,97,119,110],[106,111,105,110],[115,101,116],[103,101,116]]
def oU (l:List UInt8):Bool:=EN.contains l
def QD:List (List UInt8):=[[124,124],[38,38],[61,61],[33,61],[60,61],[62,61],[60],[62],[43],[45],[42],[47],[37],[33],[61],[40],[41],[91],[93],[123],[125],[44],[59]]
def jO (l:List UInt8):List UInt8:=(QD.find? fun g=>g.isPrefixOf l).getD []
def val (l:List UInt8):Nat:=l.foldl (fun n c=>10 * n + (c.toNat - 48)) 0
def rH (l:List UInt8):Bool:=decide (val l<=9223372036854775807)
def iO (l:List UInt8):Bool:=(decide (1<=l.length) && decide (l.length<=12) && !oU l) && (l.head?.any xJ && l.all iF)
structure Tok where
 kind:Nat
 text:List UInt8
 line:Nat
def nP (l:List UInt8):Nat × Nat × List UInt8:=
 if 12 < (l.takeWhile iF).length then (2,0,[]) else (0,if oU (l.takeWhile iF) then 3 else 1,l.takeWhile iF)
def wS (l:List UInt8):Nat × Nat × List UInt8:=
 if ((l.dropWhile iX).head?.any iF) || !rH (l.takeWhile iX) then (3,0,[]) else (0,2,l.takeWhile iX)
def EZ (l:List UInt8):Nat × Nat × List UInt8:=
 if (jO l).isEmpty then (3,0,[]) else (0,4,jO l)
def first (l:List UInt8):Nat × Nat × List UInt8:=
 if xJ (l.headD 0) then nP l else if iX (l.headD 0) then wS l else EZ l
def gJ:Nat->List UInt8->Nat->List Tok->List Tok × Nat × Nat
 | _,[],_,acc=>(acc,0,0)
 | 0,_ ::_,_,acc=>(acc,0,0)
 | f + 1,c ::r,line,acc=>
   if c=10 then gJ f r (line + 1) acc
   else if c=32∨c=9∨c=13 then gJ f r line acc
   else if [47,47].isPrefixOf (c ::r) then gJ f ((c ::r).dropWhile (· != 10)) line acc
   else if (first (c ::r)).1=0 then gJ f ((c ::r).drop (first (c ::r)).2.2.length) line (acc++[⟨(first (c ::r)).2.1,(first (c ::r)).2.2,line⟩])
   else ([],(first (c ::r)).1,line)
def scan (l:List UInt8):List Tok × Nat × Nat:=
 if 4096 < l.length then ([],2,0) else gJ l.length l 1 []
def Tok.cells (t:Tok):List Value:=[.int .i64 t.kind,.string ⟨t.text.toArray⟩,.int .i64 t.line]
def cellsOf (l:List Tok):List Value:=l.flatMap Tok.cells
end Go.Proofs.YtgjmahnblcajbaaGreatDoor.Tk
end
section
namespace Go.Proofs.YtgjmahnblcajbaaGreatDoor.Tk
theorem DL (p:UInt8->Bool): ∀(l:List UInt8) (n:Nat),n<=l.length->(∀j (h:j < l.length),j < n->p l[j]=true)->(∀h:n < l.length,p l[n]=false)->(l.takeWhile p).length=n
 | [],n,hn,_,_=>by simp at hn; simp [hn]
 | c ::l,0,_,_,h2=>by have:=h2 (by simp);simp only [List.getElem_cons_zero] at this;simp [this]
 | c ::l,n + 1,hn,h1,h2=>by
   have h0:=h1 0 (by simp) (by omega);simp only [List.getElem_cons_zero] at h0;rw [List.takeWhile_cons,if_pos h0,List.length_cons];congr 1;refine DL p l n (by simpa using hn) (fun j h hj=> ?_) (fun h=> ?_)
   ·have:=h1 (j + 1) (by simpa using h) (by omega);simpa using this
   ·have:=h2 (by simpa using h);simpa using this
theorem take_takeWhile (p:UInt8->Bool): ∀(l:List UInt8),l.take (l.takeWhile p).length=l.takeWhile p
 | []=>rfl
 | c ::l=>by
   rw [List.takeWhile_cons];split
   ·simp [take_takeWhile p l]
   ·rfl
theorem rE (p:UInt8->Bool): ∀(l:List UInt8),l.drop (l.takeWhile p).length=l.dropWhile p
 | []=>rfl
 | c ::l=>by
   rw [List.takeWhile_cons,List.dropWhile_cons];split
   ·simp [rE p l]
   ·rfl
theorem xM (p:UInt8->Bool): ∀l:List UInt8,(l.takeWhile p).length<=l.length
 | []=>Nat.le_refl _
 | c ::l=>by rw [List.takeWhile_cons];have:=xM p l;split <;> simp <;> omega
theorem zT (c:UInt8): ∀l:List UInt8,Lib.indexByte l c=if (l.takeWhile (· != c)).length < l.length then ((l.takeWhile (· != c)).length:Int) else -1
 | []=>rfl
 | b ::l=>by
   unfold Lib.indexByte;rw [zT c l,List.takeWhile_cons];by_cases h:b=c
   ·subst h; simp
   ·have h1:(b == c)=false:=by simpa using h
    have h2:(b != c)=true:=by simpa using h
    rw [h1,h2,if_pos rfl,if_neg (by simp),List.length_cons,List.length_cons];generalize (l.takeWhile (· != c)).length=n;by_cases h3:n < l.length
    ·have h4:n + 1 < l.length + 1:=(by omega);have h5:((n:Int) == -1)=false:=(by simp);simp [h3,h5]
    ·have h4: ¬ n + 1 < l.length + 1:=(by omega);simp [h3]
def Dz (l:List UInt8):Nat:=(l.takeWhile (· != 10)).length
theorem TV (l:List UInt8):Dz l<=l.length:=xM _ _
theorem ag9 (l:List UInt8) (h:0<=Lib.indexByte l 10):Lib.indexByte l 10=Dz l:=by
 rw [zT] at h ⊢;by_cases h3:(l.takeWhile (· != 10)).length < l.length
 ·rw [if_pos h3]; rfl
 ·rw [if_neg h3] at h; omega
theorem ah0 (l:List UInt8) (h:Lib.indexByte l 10 < 0):l.length=Dz l:=by
 rw [zT] at h;by_cases h3:(l.takeWhile (· != 10)).length < l.length
 ·rw [if_pos h3] at h; omega
 ·have:=xM (· != 10) l;unfold Dz; omega
def lZ (t s:ByteArray):Prop:=t.data.toList.dropWhile (· == 48)=s.data.toList.dropWhile (· == 48)
theorem lZ.refl (s:ByteArray):lZ s s:=rfl
theorem qP (t:ByteArray) (h:0 < t.size):t.data.toList=t[0] ::t.data.toList.drop 1:=by
 have h':0 < t.data.toList.length:=by rw [<- Lib.size_eq]; exact h
 have:=List.drop_eq_getElem_cons h';rw [List.drop_zero] at this;exact this
theorem lZ.step {t s:ByteArray} (h:lZ t s) (h0:0 < t.size) (he:t[0]=48):lZ (t.extract 1 t.size) s:=by
 unfold lZ at h ⊢;rw [Lib.extract_data,<- h]
 conv=>rhs; rw [qP t h0]
 rw [List.dropWhile_cons,if_pos (by rw [he]; rfl),List.take_of_length_le (by simp)]
theorem lZ.done {t s:ByteArray} (h:lZ t s) (he: ∀h0:0 < t.size,t[0]≠48):t=⟨(s.data.toList.dropWhile (· == 48)).toArray⟩:=by
 unfold lZ at h;rw [<- h];have e:t.data.toList.dropWhile (· == 48)=t.data.toList:=by
  by_cases h0:0 < t.size
  ·rw [qP t h0,List.dropWhile_cons,if_neg (by simpa using he h0)]
  ·have:t.data.toList.length=0:=by rw [<- Lib.size_eq]; omega
   rw [List.eq_nil_of_length_eq_zero this]; rfl
 rw [e]
end Go.Proofs.YtgjmahnblcajbaaGreatDoor.Tk
end
section
namespace Go.Proofs.YtgjmahnblcajbaaGreatDoor
open Go.RowKit
def aj (p:Prop):Prop:=p
theorem aj.o {p:Prop} (h:aj p):p:=h
theorem ah {p:Prop} (h:p):aj p:=h
theorem gZ {α:Type} :(∀l:List α,[]++l=l)∧ ∀(a:α) (l m:List α),(a ::l)++m=a ::(l++m):=⟨fun _=>rfl,fun _ _ _=>rfl⟩
theorem LA (w:World) (cs:List Value) (t:TypeId) (k:Nat):(w.alloc (.cells cs.toArray t)).cell? ⟨w.heap.size,k,none⟩=cs[k]?:=by
 rw [cell_of_row _ w.heap.size k cs.toArray t (0,0) (heap_alloc_new w _)];simp
end Go.Proofs.YtgjmahnblcajbaaGreatDoor
end
section
namespace Go.Proofs.YtgjmahnblcajbaaGreatDoor
open Go.RowKit
def zU (k:Nat):List UInt8:=Tk.EN.getD k []
def JZ (k:Nat):ByteArray:=⟨(zU k).toArray⟩
theorem O9 (k:Nat) (h:k < Tk.EN.length):zU k=Tk.EN[k]:=by unfold zU; simp [h]
theorem bP {a b:Bool} (h:a=b):Ending.returned (.bool a)= .returned (.bool b):=by rw [h]
theorem dB {k:IntKind} {a b:Int} (h:a=b):Ending.returned (.int k a)= .returned (.int k b):=by rw [h]
def Fq:Array Value:=(Tk.EN.map fun l=>Value.string ⟨l.toArray⟩).toArray
def cB (w:World):Prop:= ∃t fr,w.heap[0]? =some (.cells Fq t fr)
theorem cB.below {B:Nat} {w w':World} (h:cB w) (hb:Below B w w') (hB:0 < B):cB w':=by
 obtain ⟨t,fr,h⟩:=h;exact ⟨t,fr,(hb.block _ hB).trans h⟩
theorem cB.lt {w:World} (h:cB w):0 < w.heap.size:=by
 obtain ⟨t,fr,h⟩:=h;exact (Array.getElem?_eq_some_iff.1 h).1
theorem cB.same {w w':World} (h:cB w) (hb:Below w.heap.size w w'):cB w':=h.below hb h.lt
theorem cB.alloc {w:World} (h:cB w) (o:Obj):cB (w.alloc o):=h.same ((Below.refl _ _).alloc (Nat.le_refl _) o)
theorem WW (k:Nat) (hk:k < 22) (w:World):(Instr.index 142 (.agg Fq) (.int .i64 (k:Int))).run Tryz.prog w= .ok (.string (JZ k)) w:=by
 rcases (show k=0∨k=1∨k=2∨k=3∨k=4∨k=5∨k=6∨k=7∨k=8∨k=9∨k=10∨k=11∨k=12∨k=13∨k=14∨k=15∨k=16∨k=17∨k=18∨k=19∨k=20∨k=21 by omega) with rfl | rfl | rfl | rfl | rfl | rfl | rfl | rfl | rfl | rfl | rfl | rfl | rfl | rfl | rfl | rfl | rfl | rfl | rfl | rfl | rfl | rfl <;> kernel_rfl
theorem FW (k:Nat):(JZ k).toList=zU k:=by
 unfold JZ; rw [Lib.toList_data]
theorem Uz (k:Nat) (hk:k < 22) (l:List UInt8) (h:(l == zU k)=true):Tk.oU l=true:=by
 have hl:Tk.EN.length=22:=rfl;unfold Tk.oU;rw [List.contains_iff_mem,show l=zU k from by simpa using h,O9 _ (by omega)];exact List.getElem_mem _
theorem YE (l:List UInt8) (h: ∀k < 22,(l == zU k)=false):Tk.oU l=false:=by
 have hl:Tk.EN.length=22:=rfl;unfold Tk.oU;rw [Bool.eq_false_iff];intro hc;rw [List.contains_iff_mem] at hc;obtain ⟨k,hk,e⟩:=List.getElem_of_mem hc;have:=h k (by omega);rw [O9 _ hk,e] at this;simp at this
def MR (l:List UInt8) (k:Nat):Prop:= ∀j < k,(l == zU j)=false
theorem MR.step {l:List UInt8} {k:Nat} (h:MR l k) (hk:(l == zU k)=false):MR l (k + 1):=by
 intro j hj;by_cases e:j=k
 ·subst e; exact hk
 ·exact h j (by omega)
theorem xY (s:ByteArray) (w:World) (h:cB w):
 Calls Tryz.prog 63 #[.string s] w fun e w'=>e= .returned (.bool (Tk.oU s.data.toList))∧w=w':=by
 obtain ⟨t,fr,hg⟩:=h;rw [<- Lib.toList_data];go_enter Tryz.func63,Tryz.ntmps63;go_wp2_with (refine wpList_load_row rfl 142 _ rfl 0 rfl t _ fr _ hg Tryz.underlying142 rfl (by kernel_rfl) ?_);clear hg;go_loop [6] (fun i=> ∃k:Nat,k<=22∧i= .int .i64 k∧MR s.toList k) (fun i=>22 - (intOf i).toNat)
 case atStart=>exact ⟨0,Nat.zero_le _,rfl,fun j hj=>absurd hj (by omega)⟩
 case round=>
  obtain ⟨k,hk,rfl,hno⟩:=hrel;by_cases hlt:k < 22
  ·have hix:=WW k hlt;have hat:=FW k;by_cases he:(s.toList == zU k)=true
   ·go_wp2;go_ret;exact ⟨bP (Uz k hlt _ he).symm,rfl⟩
   ·have he':(s.toList == zU k)=false:=(by simpa using he);clear he;go_wp2;go_round
    case rel=>exact ⟨k + 1,by omega,by go_num,hno.step he'⟩
    case measure=>simp [intOf]; omega
  ·obtain rfl:k=22:=by omega
   go_wp2;go_ret;exact ⟨bP (YE _ hno).symm,rfl⟩
end Go.Proofs.YtgjmahnblcajbaaGreatDoor
end
section
namespace Go.Proofs.YtgjmahnblcajbaaGreatDoor
open Go.RowKit
theorem am9 (c:UInt8):Tk.iF c=((Tk.xJ c || Tk.iX c) || ((c.toNat:Int) == 95)):=rfl
theorem O5 (c:UInt8) (h:Tk.xJ c=true):Tk.iF c=true:=by rw [am9,h]; rfl
theorem AJ (c:UInt8):(Tk.iF c=true∧Tk.oW (c.toNat:Int)=true)∨(Tk.iF c=true∧Tk.oW (c.toNat:Int)=false∧Tk.nX (c.toNat:Int)=true)∨
 (Tk.iF c=true∧Tk.oW (c.toNat:Int)=false∧Tk.nX (c.toNat:Int)=false∧((c.toNat:Int) == 95)=true)∨
 (Tk.iF c=false∧Tk.oW (c.toNat:Int)=false∧Tk.nX (c.toNat:Int)=false∧((c.toNat:Int) == 95)=false):=by
 have e:Tk.iF c=((Tk.oW (c.toNat:Int) || Tk.nX (c.toNat:Int)) || ((c.toNat:Int) == 95)):=rfl;rw [e];cases Tk.oW (c.toNat:Int) <;> cases Tk.nX (c.toNat:Int) <;> cases ((c.toNat:Int) == 95) <;> simp
end Go.Proofs.YtgjmahnblcajbaaGreatDoor
end
section
namespace Go.Proofs.YtgjmahnblcajbaaGreatDoor.Tk
theorem yY (c:UInt8):iX c=true↔48<=c.toNat∧c.toNat<=57:=by
 unfold iX nX;simp only [Bool.and_eq_true,decide_eq_true_eq];omega
theorem U8 (l:List UInt8): ∀n:Nat,l.foldl (fun n c=>10 * n + (c.toNat - 48)) n=n * 10 ^ l.length + val l:=by
 induction l with
 | nil=>intro n; simp [val]
 | cons c l ih=>intro n;have h0:=ih (10 * 0 + (c.toNat - 48));have h1:=ih (10 * n + (c.toNat - 48));unfold val;simp only [List.foldl_cons];rw [h1,h0,List.length_cons,Nat.pow_succ];simp only [Nat.mul_zero,Nat.zero_add,Nat.add_mul];rw [Nat.add_assoc,Nat.mul_comm 10 n,Nat.mul_assoc,Nat.mul_comm 10]
theorem tN (c:UInt8) (l:List UInt8):val (c ::l)=(c.toNat - 48) * 10 ^ l.length + val l:=by
 have:=U8 l (10 * 0 + (c.toNat - 48));unfold val at *;simp only [List.foldl_cons];rw [this];simp
theorem Cz: ∀(l:List UInt8),l.all iX=true->val l < 10 ^ l.length
 | [],_=>by simp [val]
 | c ::l,h=>by rw [List.all_cons,Bool.and_eq_true,yY] at h;have:=Cz l h.2;rw [tN,List.length_cons,Nat.pow_succ];have h9:(c.toNat - 48) * 10 ^ l.length<=9 * 10 ^ l.length:=Nat.mul_le_mul_right _ (by omega);omega
theorem as2 (c:UInt8) (l:List UInt8) (h:iX c=true) (h0:c≠48):10 ^ l.length<=val (c ::l):=by
 rw [yY] at h;have hc:c.toNat≠48:=fun e=>h0 (UInt8.toNat_inj.1 e);rw [tN];have:1 * 10 ^ l.length<=(c.toNat - 48) * 10 ^ l.length:=Nat.mul_le_mul_right _ (by omega);omega
theorem Dk: ∀l:List UInt8,val (l.dropWhile (· == 48))=val l
 | []=>rfl
 | c ::l=>by
   rw [List.dropWhile_cons];split
   ·rename_i h;have:c=48:=by simpa using h
    subst this;rw [Dk l,tN];simp
   ·rfl
theorem CU (p q:UInt8->Bool): ∀l:List UInt8,l.all p=true->(l.dropWhile q).all p=true
 | [],_=>rfl
 | c ::l,h=>by
   rw [List.dropWhile_cons];split
   ·rw [List.all_cons,Bool.and_eq_true] at h;exact CU p q l h.2
   ·exact h
theorem Oc: ∀(a b:List UInt8),a.all iX=true->b.all iX=true->a.length=b.length->Op.bytesLess a b=decide (val a < val b)
 | [],[],_,_,_=>rfl
 | a ::x,b ::y,ha,hb,hl=>by
   rw [List.all_cons,Bool.and_eq_true] at ha hb;have hl':x.length=y.length:=by simpa using hl
   have ih:=Oc x y ha.2 hb.2 hl';have hx:=Cz x ha.2;have hy:=Cz y hb.2;have h1:=(yY a).1 ha.1;have h2:=(yY b).1 hb.1;unfold Op.bytesLess;rw [ih,tN,tN,hl'];rw [hl'] at hx;generalize 10 ^ y.length=T at *;rcases Nat.lt_trichotomy a.toNat b.toNat with h | h | h
   ·have e1:a < b:=UInt8.lt_iff_toNat_lt.2 h;have:(a.toNat - 48) * T + T<=(b.toNat - 48) * T:=by
     have:=Nat.mul_le_mul_right T (show a.toNat - 48 + 1<=b.toNat - 48 by omega)
     rwa [Nat.add_mul,Nat.one_mul] at this
    have e2:(a.toNat - 48) * T + val x < (b.toNat - 48) * T + val y:=by omega
    simp [e1,e2]
   ·have e1:a=b:=UInt8.toNat_inj.1 h;subst e1;have e2: ¬ a < a:=by rw [UInt8.lt_iff_toNat_lt]; omega
    simp
   ·have e1: ¬ a < b:=by rw [UInt8.lt_iff_toNat_lt]; omega
    have e2:a≠b:=fun e=>by rw [e] at h; omega
    have:(b.toNat - 48) * T + T<=(a.toNat - 48) * T:=by
     have:=Nat.mul_le_mul_right T (show b.toNat - 48 + 1<=a.toNat - 48 by omega)
     rwa [Nat.add_mul,Nat.one_mul] at this
    have e3: ¬ (a.toNat - 48) * T + val x < (b.toNat - 48) * T + val y:=by omega
    simp [e1,e2,e3]
 | [],_ ::_,_,_,h=>by simp at h
 | _ ::_,[],_,_,h=>by simp at h
theorem val_inj: ∀(a b:List UInt8),a.all iX=true->b.all iX=true->a.length=b.length->val a=val b->a=b
 | [],[],_,_,_,_=>rfl
 | a ::x,b ::y,ha,hb,hl,hv=>by
   rw [List.all_cons,Bool.and_eq_true] at ha hb;have hl':x.length=y.length:=by simpa using hl
   have hx:=Cz x ha.2;have hy:=Cz y hb.2;have h1:=(yY a).1 ha.1;have h2:=(yY b).1 hb.1;have hv':=hv;rw [tN,tN,hl'] at hv;rw [hl'] at hx;have hab:a.toNat=b.toNat:=by
    generalize 10 ^ y.length=T at *;rcases Nat.lt_trichotomy a.toNat b.toNat with h | h | h
    ·have:=Nat.mul_le_mul_right T (show a.toNat - 48 + 1<=b.toNat - 48 by omega);rw [Nat.add_mul,Nat.one_mul] at this;omega
    ·exact h
    ·have:=Nat.mul_le_mul_right T (show b.toNat - 48 + 1<=a.toNat - 48 by omega);rw [Nat.add_mul,Nat.one_mul] at this;omega
   obtain rfl:a=b:=UInt8.toNat_inj.1 hab;rw [val_inj x y ha.2 hb.2 hl' (by omega)]
 | [],_ ::_,_,_,h,_=>by simp at h
 | _ ::_,[],_,_,h,_=>by simp at h
def great:List UInt8:=[57,50,50,51,51,55,50,48,51,54,56,53,52,55,55,53,56,48,55]
theorem Az:val great=9223372036854775807:=by decide
theorem Li:great.all iX=true:=by decide
theorem Lj:great.length=19:=rfl
theorem Sb (l:List UInt8) (h:l.all iX=true) (hl:19 < (l.dropWhile (· == 48)).length):rH l=false:=by
 have ht:=CU iX (· == 48) l h;unfold rH;rw [<- Dk l];have hh: ∀c r,l.dropWhile (· == 48)=c ::r->c≠48:=by intro c r e;have:=List.head?_dropWhile_not (· == 48) l;rw [e] at this;simpa using this
 generalize l.dropWhile (· == 48)=t at *
 match t,hl,ht,hh with
 | c ::r,hl,ht,hh=>rw [List.all_cons,Bool.and_eq_true] at ht;have h1:=as2 c r ht.1 (hh c r rfl);have h2:10 ^ 19<=10 ^ r.length:=Nat.pow_le_pow_right (by omega) (by simp at hl; omega);have h3:(10:Nat) ^ 19=10000000000000000000:=rfl;rw [h3] at h2;simp only [decide_eq_false_iff_not];omega
theorem Pj (l:List UInt8) (h:l.all iX=true) (hl:(l.dropWhile (· == 48)).length < 19):rH l=true:=by
 have ht:=CU iX (· == 48) l h;unfold rH;rw [<- Dk l];generalize l.dropWhile (· == 48)=t at *;have h1:=Cz t ht;have h2:10 ^ t.length<=10 ^ 18:=Nat.pow_le_pow_right (by omega) (by omega);have h3:(10:Nat) ^ 18=1000000000000000000:=rfl;rw [h3] at h2;simp only [decide_eq_true_eq];omega
theorem X6 (l:List UInt8) (h:l.all iX=true) (hl:(l.dropWhile (· == 48)).length=19):
 (!(Op.bytesLess (l.dropWhile (· == 48)) great || (l.dropWhile (· == 48)) == great))= !rH l:=by
 have ht:=CU iX (· == 48) l h;unfold rH;rw [<- Dk l];generalize l.dropWhile (· == 48)=t at *;rw [Oc t great ht Li (by rw [hl,Lj]),Az];congr 1;by_cases e:val t=9223372036854775807
 ·have:t=great:=val_inj t great ht Li (by rw [hl,Lj]) (by rw [e,Az]);rw [this,Az];simp
 ·have hne:(t == great)=false:=by rw [beq_eq_false_iff_ne];intro e';rw [e',Az] at e;exact e rfl
  rw [hne,Bool.or_false,decide_eq_decide];omega
def BA:List (List UInt8):=[[124,124],[38,38],[61,61],[33,61],[60,61],[62,61]]
def KY:List UInt8:=[60,62,43,45,42,47,37,33,61,40,41,91,93,123,125,44,59]
theorem ar7:QD=BA++KY.map fun c=>[c]:=rfl
theorem Gt (n:Nat) (l:List UInt8): ∀gs:List (List UInt8),(∀g ∈ gs,g.length=n)->gs.find? (fun g=>g.isPrefixOf l)=if gs.contains (l.take n) then some (l.take n) else none
 | [],_=>rfl
 | g ::gs,h=>by
   have hg:g.length=n:=h g (List.mem_cons_self ..);have ih:=Gt n l gs fun x hx=>h x (List.mem_cons_of_mem _ hx);rw [List.find?_cons,ih,List.contains_cons];by_cases e:g.isPrefixOf l=true
   ·have e1:l.take n=g:=by obtain ⟨r,rfl⟩:=List.isPrefixOf_iff_prefix.1 e;rw [<- hg]; simp
    rw [e,e1];simp
   ·have e0:g.isPrefixOf l=false:=Bool.eq_false_iff.2 e;have e1:(l.take n == g)=false:=by rw [beq_eq_false_iff_ne];intro e2;exact e (List.isPrefixOf_iff_prefix.2 (e2 ▸ List.take_prefix _ _))
    rw [e0,e1];simp
theorem Cu (l:List UInt8):jO l=if BA.contains (l.take 2) then l.take 2 else if (KY.map fun c=>[c]).contains (l.take 1) then l.take 1 else []:=by
 unfold jO;rw [ar7,List.find?_append,Gt 2 l BA (by decide),Gt 1 l (KY.map fun c=>[c]) (by decide)];split
 ·rfl
 ·split <;> rfl
theorem Nq (a:UInt8):(KY.map fun c=>[c]).contains [a]=KY.contains a:=by
 simp [KY]
theorem Ch (c:UInt8): ∀l:List UInt8,l.contains c=decide (0<=Lib.indexByte l c)
 | []=>rfl
 | b ::l=>by
   have ih:=Ch c l;have hg:=Lib.indexByte_ge l c;have hc:Lib.indexByte (b ::l) c=if b == c then 0 else if Lib.indexByte l c == -1 then -1 else Lib.indexByte l c + 1:=rfl
   rw [List.contains_cons,ih,hc];by_cases h:b=c
   ·subst h; simp
   ·have h1:(b == c)=false:=by simpa using h
    have h2:(c == b)=false:=by simpa using Ne.symm h
    rw [h1,h2];simp only [Bool.false_or,Bool.false_eq_true,if_false,decide_eq_decide];by_cases h3:Lib.indexByte l c= -1
    ·simp [h3]
    ·rw [if_neg (by simpa using h3)];omega
end Go.Proofs.YtgjmahnblcajbaaGreatDoor.Tk
end
section
namespace Go.Proofs.YtgjmahnblcajbaaGreatDoor.Tk
theorem AZ (f line:Nat) (acc:List Tok):gJ f [] line acc=(acc,0,0):=by cases f <;> rfl
theorem OE (p:UInt8->Bool) (c:UInt8) (r:List UInt8) (h:p c=true):1<=((c ::r).takeWhile p).length:=by
 rw [List.takeWhile_cons,if_pos h]; simp
theorem Qt (c:UInt8) (h:xJ c=true):iF c=true:=by
 have e:iF c=((xJ c || iX c) || ((c.toNat:Int) == 95)):=rfl;rw [e,h]; rfl
theorem Av (c:UInt8) (r:List UInt8) (h:(first (c ::r)).1=0):1<=(first (c ::r)).2.2.length∧(first (c ::r)).2.2.length<=(c ::r).length∧(c ::r).take (first (c ::r)).2.2.length=(first (c ::r)).2.2:=by
 have hh:(c ::r).headD 0=c:=rfl;unfold first at h ⊢;rw [hh] at h ⊢;by_cases hL:xJ c=true
 ·rw [if_pos hL] at h ⊢;unfold nP at h ⊢;by_cases h12:12 < ((c ::r).takeWhile iF).length
  ·rw [if_pos h12] at h; cases h
  ·rw [if_neg h12];exact ⟨OE _ _ _ (Qt c hL),xM _ _,take_takeWhile _ _⟩
 ·rw [if_neg hL] at h ⊢;by_cases hD:iX c=true
  ·rw [if_pos hD] at h ⊢;unfold wS at h ⊢;split at h
   ·cases h
   ·rename_i h2;rw [if_neg h2];exact ⟨OE _ _ _ hD,xM _ _,take_takeWhile _ _⟩
  ·rw [if_neg hD] at h ⊢;unfold EZ at h ⊢;split at h
   ·cases h
   ·rename_i h2;rw [if_neg h2];have hlen:jO (c ::r)≠[]:=fun e=>h2 (by rw [e]; rfl);refine ⟨?_,?_,?_⟩
    ·cases hs:jO (c ::r) with
     | nil=>exact absurd hs hlen
     | cons a b=>simp
    ·show (jO (c ::r)).length<=_;rw [Cu]; split
     ·rw [List.length_take]; omega
     ·split
      ·rw [List.length_take]; omega
      ·simp
    ·show (c ::r).take (jO (c ::r)).length=jO (c ::r);rw [Cu]; split
     ·rw [List.length_take,List.take_eq_take_iff]; omega
     ·split
      ·rw [List.length_take,List.take_eq_take_iff]; omega
      ·rfl
theorem Xf (f:Nat) (r:List UInt8) (line:Nat) (acc:List Tok):gJ (f + 1) (10 ::r) line acc=gJ f r (line + 1) acc:=by
 rw [gJ,if_pos rfl]
theorem Po (f:Nat) (c:UInt8) (r:List UInt8) (line:Nat) (acc:List Tok) (h:c=32∨c=9∨c=13):gJ (f + 1) (c ::r) line acc=gJ f r line acc:=by
 have h1:c≠10:=by rcases h with rfl | rfl | rfl <;> decide
 rw [gJ,if_neg h1,if_pos h]
theorem UY (f:Nat) (c:UInt8) (r:List UInt8) (line:Nat) (acc:List Tok) (h1:c≠10) (h2: ¬ (c=32∨c=9∨c=13)) (h3:[47,47].isPrefixOf (c ::r)=true):gJ (f + 1) (c ::r) line acc=gJ f ((c ::r).dropWhile (· != 10)) line acc:=by
 rw [gJ,if_neg h1,if_neg h2,if_pos h3]
theorem V3 (f:Nat) (c:UInt8) (r:List UInt8) (line:Nat) (acc:List Tok) (h1:c≠10) (h2: ¬ (c=32∨c=9∨c=13)) (h3:[47,47].isPrefixOf (c ::r)=false) (h4:(first (c ::r)).1=0):
 gJ (f + 1) (c ::r) line acc=gJ f ((c ::r).drop (first (c ::r)).2.2.length) line (acc++[⟨(first (c ::r)).2.1,(first (c ::r)).2.2,line⟩]):=by
 rw [gJ,if_neg h1,if_neg h2,if_neg (by rw [h3]; decide),if_pos h4]
theorem UZ (f:Nat) (c:UInt8) (r:List UInt8) (line:Nat) (acc:List Tok) (h1:c≠10) (h2: ¬ (c=32∨c=9∨c=13)) (h3:[47,47].isPrefixOf (c ::r)=false) (h4:(first (c ::r)).1≠0):
 gJ (f + 1) (c ::r) line acc=([],(first (c ::r)).1,line):=by
 rw [gJ,if_neg h1,if_neg h2,if_neg (by rw [h3]; decide),if_neg h4]
def SP (l:List UInt8) (R:List Tok × Nat × Nat) (k line:Nat) (acc:List Tok):Prop:=
 k<=l.length∧line<=k + 1∧acc.length<=k∧ ∃f,(l.drop k).length<=f∧gJ f (l.drop k) line acc=R
theorem SP.start (l:List UInt8):SP l (gJ l.length l 1 []) 0 1 []:=⟨Nat.zero_le _,Nat.le_refl _,Nat.le_refl _,l.length,Nat.le_refl _,rfl⟩
section
variable {l:List UInt8} {R:List Tok × Nat × Nat} {k line:Nat} {acc:List Tok}
theorem SP.cut (h:SP l R k line acc) (hk:k < l.length): ∃f,(l.drop (k + 1)).length<=f∧gJ (f + 1) (l[k] ::l.drop (k + 1)) line acc=R:=by
 obtain ⟨_,_,_,f,hf,hR⟩:=h;rw [List.drop_eq_getElem_cons hk] at hf hR;cases f with
 | zero=>simp at hf; omega
 | succ f=>exact ⟨f,by rw [List.length_cons] at hf; omega,hR⟩
theorem SP.nl (h:SP l R k line acc) (hk:k < l.length) (hc:l[k]=10):SP l R (k + 1) (line + 1) acc:=by
 obtain ⟨f,hf,hR⟩:=h.cut hk;rw [hc,Xf] at hR;exact ⟨hk,by have:=h.2.1; omega,by have:=h.2.2.1; omega,f,hf,hR⟩
theorem SP.blank (h:SP l R k line acc) (hk:k < l.length) (hc:l[k]=32∨l[k]=9∨l[k]=13):SP l R (k + 1) line acc:=by
 obtain ⟨f,hf,hR⟩:=h.cut hk;rw [Po _ _ _ _ _ hc] at hR;exact ⟨hk,by have:=h.2.1; omega,by have:=h.2.2.1; omega,f,hf,hR⟩
theorem SP.Dz (h:SP l R k line acc) (hk:k < l.length) (h1:l[k]≠10) (h2: ¬ (l[k]=32∨l[k]=9∨l[k]=13)) (h3:[47,47].isPrefixOf (l.drop k)=true):SP l R (k + Tk.Dz (l.drop k)) line acc∧1<=Tk.Dz (l.drop k):=by
 obtain ⟨f,hf,hR⟩:=h.cut hk;have e:=List.drop_eq_getElem_cons hk;rw [e] at h3;rw [UY _ _ _ _ _ h1 h2 h3,<- e,<- rE,List.drop_drop] at hR;have hle:=TV (l.drop k);rw [List.length_drop] at hle;have h1':1<=Tk.Dz (l.drop k):=by unfold Tk.Dz; rw [e];exact OE (· != 10) _ _ (by simpa using h1)
 refine ⟨⟨by omega,by have:=h.2.1; omega,by have:=h.2.2.1; omega,f,?_,hR⟩,h1'⟩;rw [List.length_drop] at hf ⊢;omega
theorem SP.tok (h:SP l R k line acc) (hk:k < l.length) (h1:l[k]≠10) (h2: ¬ (l[k]=32∨l[k]=9∨l[k]=13)) (h3:[47,47].isPrefixOf (l.drop k)=false) (h4:(first (l.drop k)).1=0):
 SP l R (k + (first (l.drop k)).2.2.length) line (acc++[⟨(first (l.drop k)).2.1,(first (l.drop k)).2.2,line⟩])∧1<=(first (l.drop k)).2.2.length:=by
 obtain ⟨f,hf,hR⟩:=h.cut hk;have e:=List.drop_eq_getElem_cons hk;rw [e] at h3 h4;have hl:=Av _ _ h4;rw [V3 _ _ _ _ _ h1 h2 h3 h4,<- e,List.drop_drop] at hR;rw [<- e] at hl h4;rw [List.length_drop] at hl;refine ⟨⟨by omega,by have:=h.2.1; omega,?_,f,?_,hR⟩,hl.1⟩
 ·rw [List.length_append]; have:=h.2.2.1; simp; omega
 ·rw [List.length_drop] at hf ⊢;omega
theorem SP.err (h:SP l R k line acc) (hk:k < l.length) (h1:l[k]≠10) (h2: ¬ (l[k]=32∨l[k]=9∨l[k]=13)) (h3:[47,47].isPrefixOf (l.drop k)=false) (h4:(first (l.drop k)).1≠0):
 R=([],(first (l.drop k)).1,line):=by
 obtain ⟨f,hf,hR⟩:=h.cut hk;have e:=List.drop_eq_getElem_cons hk;rw [e] at h3 h4;rw [UZ _ _ _ _ _ h1 h2 h3 h4,<- e] at hR;exact hR.symm
theorem SP.done (h:SP l R k line acc) (hk: ¬ k < l.length):R=(acc,0,0):=by
 obtain ⟨_,_,_,f,hf,hR⟩:=h;rw [List.drop_of_length_le (by omega),AZ] at hR;exact hR.symm
end
theorem Np (l m:List Tok):cellsOf (l++m)=cellsOf l++cellsOf m:=by unfold cellsOf; rw [List.flatMap_append]
theorem cells_one (t:Tok):cellsOf [t]=t.cells:=by unfold cellsOf; simp
end Go.Proofs.YtgjmahnblcajbaaGreatDoor.Tk
end
