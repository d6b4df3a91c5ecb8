/- Plain functions of the token layer: what a text's tokens are, over lists of bytes. No program in sight. And what hangs on it. -/
import Derived.Lib.Strings
import Derived.Lib.Bytealg
import Derived.Lib.TrimByte
import Derived.Laws.Strings
import Derived.Test.YtfbbaiejbjdfbaaGreatDoorChecked
import Derived.WalkKit
import Derived.WalkSpells
import Derived.WalkLawsBesides
import Derived.Lib.Walk
import Derived.Lib.Hide
import Derived.Deep.Light
set_option linter.unusedSimpArgs false
set_option linter.unusedVariables false
set_option maxHeartbeats 40000000
set_option maxRecDepth 1000000
section
namespace Go.Proofs.YtfbbaiejbjdfbaaGreatDoor.Tk
def Ke (c:Int):Bool:=(decide (97<=c) && decide (c<=122)) || (decide (65<=c) && decide (c<=90))
def Ql (c:Int):Bool:=decide (48<=c) && decide (c<=57)
def MZ (c:Int):Bool:=(Ke c || Ql c) || c == 95
def GY (c:UInt8):Bool:=Ke c.toNat
def XC (c:UInt8):Bool:=Ql c.toNat
def zR (c:UInt8):Bool:=MZ c.toNat
def H6:List (List UInt8):=[[118,97,114],[118,111,108,97,116,105,108,101],[109,117,116,101,120],[114,119,108,111,99,107],[99,111,110,100],[102,117,116,117,114,101],[116,104,114,101,97,100],[105,102],[101,108,115,101],[119,104,105,108,101],[108,111,99,107],[114,101,97,100],[119,114,105,116,101],[116,114,97,110,115,97,99,116,105,111,110],[97,116,111,109,105,99],[119,97,105,116],[110,111,116,105,102,121],[110,111,116,105,102,121,97,108,108],[115,112,97,119,110],[106,111,105,110],[115,101,116],[103,101,116]]
def CU (l:List UInt8):Bool:=H6.contains l
def sgs:List (List UInt8):=[[124,124],[38,38],[61,61],[33,61],[60,61],[62,61],[60],[62],[43],[45],[42],[47],[37],[33],[61],[40],[41],[91],[93],[123],[125],[44],[59]]
def aH8 (l:List UInt8):List UInt8:=(sgs.find? fun g=>g.isPrefixOf l).getD []
def val (l:List UInt8):Nat:=l.foldl (fun n c=>10 * n + (c.toNat - 48)) 0
def aL3 (l:List UInt8):Bool:=decide (val l<=9223372036854775807)
def gZ (l:List UInt8):Bool:=(decide (1<=l.length) && decide (l.length<=12) && !CU l) && (l.head?.any GY && l.all zR)
structure Tok where
 kind:Nat
 text:List UInt8
 line:Nat
def aM2 (l:List UInt8):Nat × Nat × List UInt8:=
 if 12 < (l.takeWhile zR).length then (2,0,[]) else (0,if CU (l.takeWhile zR) then 3 else 1,l.takeWhile zR)
def bg3 (l:List UInt8):Nat × Nat × List UInt8:=
 if ((l.dropWhile XC).head?.any zR) || !aL3 (l.takeWhile XC) then (3,0,[]) else (0,2,l.takeWhile XC)
def bh4 (l:List UInt8):Nat × Nat × List UInt8:=
 if (aH8 l).isEmpty then (3,0,[]) else (0,4,aH8 l)
def first (l:List UInt8):Nat × Nat × List UInt8:=
 if GY (l.headD 0) then aM2 l else if XC (l.headD 0) then bg3 l else bh4 l
def Tok.cells (t:Tok):List Value:=[.int .i64 t.kind,.string ⟨t.text.toArray⟩,.int .i64 t.line]
def cellsOf (l:List Tok):List Value:=l.flatMap Tok.cells
end Go.Proofs.YtfbbaiejbjdfbaaGreatDoor.Tk
end
section
namespace Go.Proofs.YtfbbaiejbjdfbaaGreatDoor.Tk
def uh (t s:ByteArray):Prop:=t.data.toList.dropWhile (· == 48)=s.data.toList.dropWhile (· == 48)
theorem uh.refl (s:ByteArray):uh s s:=rfl
theorem AO (t:ByteArray) (h:0 < t.size):t.data.toList=t[0] ::t.data.toList.drop 1:=by
 have h':0 < t.data.toList.length:=by rw [<- Lib.size_eq]; exact h
 have:=List.drop_eq_getElem_cons h';rw [List.drop_zero] at this;exact this
theorem uh.step {t s:ByteArray} (h:uh t s) (h0:0 < t.size) (he:t[0]=48):uh (t.extract 1 t.size) s:=by
 unfold uh at h ⊢;rw [Lib.extract_data,<- h]
 conv=>rhs; rw [AO t h0]
 rw [List.dropWhile_cons,if_pos (by rw [he]; rfl),List.take_of_length_le (by simp)]
theorem uh.done {t s:ByteArray} (h:uh t s) (he: ∀h0:0 < t.size,t[0]≠48):t=⟨(s.data.toList.dropWhile (· == 48)).toArray⟩:=by
 unfold uh at h;rw [<- h];have e:t.data.toList.dropWhile (· == 48)=t.data.toList:=by
  by_cases h0:0 < t.size
  ·rw [AO t h0,List.dropWhile_cons,if_neg (by simpa using he h0)]
  ·have:t.data.toList.length=0:=by rw [<- Lib.size_eq]; omega
   rw [List.eq_nil_of_length_eq_zero this]; rfl
 rw [e]
end Go.Proofs.YtfbbaiejbjdfbaaGreatDoor.Tk
end
section
namespace Go.Proofs.YtfbbaiejbjdfbaaGreatDoor
open Go.RowKit
def aj (p:Prop):Prop:=p
theorem aj.o {p:Prop} (h:aj p):p:=h
theorem ah {p:Prop} (h:p):aj p:=h
theorem bP {α:Type} :(∀l:List α,[]++l=l)∧ ∀(a:α) (l m:List α),(a ::l)++m=a ::(l++m):=⟨fun _=>rfl,fun _ _ _=>rfl⟩
theorem Og (w:World) (cs:List Value) (t:TypeId) (k:Nat):(w.alloc (.cells cs.toArray t)).cell? ⟨w.heap.size,k,none⟩=cs[k]?:=by
 rw [cell_of_row _ w.heap.size k cs.toArray t (0,0) (heap_alloc_new w _)];simp
end Go.Proofs.YtfbbaiejbjdfbaaGreatDoor
end
section
namespace Go.Proofs.YtfbbaiejbjdfbaaGreatDoor
open Go.RowKit
def CV (k:Nat):List UInt8:=Tk.H6.getD k []
def N9 (k:Nat):ByteArray:=⟨(CV k).toArray⟩
theorem R3 (k:Nat) (h:k < Tk.H6.length):CV k=Tk.H6[k]:=by unfold CV; simp [h]
theorem bK {a b:Bool} (h:a=b):Ending.returned (.bool a)= .returned (.bool b):=by rw [h]
theorem bF {k:IntKind} {a b:Int} (h:a=b):Ending.returned (.int k a)= .returned (.int k b):=by rw [h]
def Iu:Array Value:=(Tk.H6.map fun l=>Value.string ⟨l.toArray⟩).toArray
def fC (w:World):Prop:= ∃t fr,w.heap[0]? =some (.cells Iu t fr)
theorem fC.below {B:Nat} {w w':World} (h:fC w) (hb:Below B w w') (hB:0 < B):fC w':=by
 obtain ⟨t,fr,h⟩:=h;exact ⟨t,fr,(hb.block _ hB).trans h⟩
theorem fC.lt {w:World} (h:fC w):0 < w.heap.size:=by
 obtain ⟨t,fr,h⟩:=h;exact (Array.getElem?_eq_some_iff.1 h).1
theorem fC.same {w w':World} (h:fC w) (hb:Below w.heap.size w w'):fC w':=h.below hb h.lt
theorem fC.alloc {w:World} (h:fC w) (o:Obj):fC (w.alloc o):=h.same ((Below.refl _ _).alloc (Nat.le_refl _) o)
theorem ZM (k:Nat) (hk:k < 22) (w:World):(Instr.index 163 (.agg Iu) (.int .i64 (k:Int))).run Tryz.prog w= .ok (.string (N9 k)) w:=by
 rcases (show k=0∨k=1∨k=2∨k=3∨k=4∨k=5∨k=6∨k=7∨k=8∨k=9∨k=10∨k=11∨k=12∨k=13∨k=14∨k=15∨k=16∨k=17∨k=18∨k=19∨k=20∨k=21 by omega) with rfl | rfl | rfl | rfl | rfl | rfl | rfl | rfl | rfl | rfl | rfl | rfl | rfl | rfl | rfl | rfl | rfl | rfl | rfl | rfl | rfl | rfl <;> kernel_rfl
theorem Jo (k:Nat):(N9 k).toList=CV k:=by
 unfold N9; rw [Lib.toList_data]
theorem XG (k:Nat) (hk:k < 22) (l:List UInt8) (h:(l == CV k)=true):Tk.CU l=true:=by
 have hl:Tk.H6.length=22:=rfl;unfold Tk.CU;rw [List.contains_iff_mem,show l=CV k from by simpa using h,R3 _ (by omega)];exact List.getElem_mem _
theorem ag1 (l:List UInt8) (h: ∀k < 22,(l == CV k)=false):Tk.CU l=false:=by
 have hl:Tk.H6.length=22:=rfl;unfold Tk.CU;rw [Bool.eq_false_iff];intro hc;rw [List.contains_iff_mem] at hc;obtain ⟨k,hk,e⟩:=List.getElem_of_mem hc;have:=h k (by omega);rw [R3 _ hk,e] at this;simp at this
def PN (l:List UInt8) (k:Nat):Prop:= ∀j < k,(l == CV j)=false
theorem PN.step {l:List UInt8} {k:Nat} (h:PN l k) (hk:(l == CV k)=false):PN l (k + 1):=by
 intro j hj;by_cases e:j=k
 ·subst e; exact hk
 ·exact h j (by omega)
theorem Fx (s:ByteArray) (w:World) (h:fC w):
 Calls Tryz.prog 101 #[.string s] w fun e w'=>e= .returned (.bool (Tk.CU s.data.toList))∧w=w':=by
 obtain ⟨t,fr,hg⟩:=h;rw [<- Lib.toList_data];go_enter Tryz.func101,Tryz.ntmps101;go_wp2_with (refine wpList_load_row rfl 163 _ rfl 0 rfl t _ fr _ hg Tryz.underlying163 rfl (by kernel_rfl) ?_);clear hg;go_loop [6] (fun i=> ∃k:Nat,k<=22∧i= .int .i64 k∧PN s.toList k) (fun i=>22 - (intOf i).toNat)
 case atStart=>exact ⟨0,Nat.zero_le _,rfl,fun j hj=>absurd hj (by omega)⟩
 case round=>
  obtain ⟨k,hk,rfl,hno⟩:=hrel;by_cases hlt:k < 22
  ·have hix:=ZM k hlt;have hat:=Jo k;by_cases he:(s.toList == CV k)=true
   ·go_wp2;go_ret;exact ⟨bK (XG k hlt _ he).symm,rfl⟩
   ·have he':(s.toList == CV k)=false:=(by simpa using he);clear he;go_wp2;go_round
    case rel=>exact ⟨k + 1,by omega,by go_num,hno.step he'⟩
    case measure=>simp [intOf]; omega
  ·obtain rfl:k=22:=by omega
   go_wp2;go_ret;exact ⟨bK (ag1 _ hno).symm,rfl⟩
end Go.Proofs.YtfbbaiejbjdfbaaGreatDoor
end
section
namespace Go.Proofs.YtfbbaiejbjdfbaaGreatDoor
open Go.RowKit
theorem aE6 (c:UInt8):Tk.zR c=((Tk.GY c || Tk.XC c) || ((c.toNat:Int) == 95)):=rfl
theorem ZH (c:UInt8) (h:Tk.GY c=true):Tk.zR c=true:=by rw [aE6,h]; rfl
end Go.Proofs.YtfbbaiejbjdfbaaGreatDoor
end
