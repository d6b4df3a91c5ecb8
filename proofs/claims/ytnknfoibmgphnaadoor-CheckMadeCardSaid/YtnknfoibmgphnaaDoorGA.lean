/-
  Plain functions of the token layer: what a text's tokens are, over lists of bytes. No program in sight.
  Plain laws of the token layer's functions over lists of bytes. No program in sight.
  What all contracts of names import.
  The table of keywords in memory, and token.IsKeyword's contract.
  Small facts on the signs of names.
-/
import Derived.Lib.Strings
import Derived.Lib.Bytealg
import Derived.Lib.TrimByte
import Derived.Laws.Strings
import Derived.Test.YtnknfoibmgphnaaDoorChecked
import Derived.WalkKit
import Derived.WalkSpells
import Derived.WalkLawsBesides
import Derived.Lib.Walk
import Derived.Lib.Hide
import Derived.Deep.Light
section
namespace Go.Proofs.YtnknfoibmgphnaaDoor.Tk
def zO (c:Int):Bool:=(decide (97≤c) && decide (c≤122)) || (decide (65≤c) && decide (c≤90))
def Dz (c:Int):Bool:=decide (48≤c) && decide (c≤57)
def AZ (c:Int):Bool:=(zO c || Dz c) || c == 95
def xY (c:UInt8):Bool:=zO c.toNat
def Ho (c:UInt8):Bool:=Dz c.toNat
def qL (c:UInt8):Bool:=AZ c.toNat
def xP:List (List UInt8):=[[118,97,114],[118,111,108,97,116,105,108,101],[109,117,116,101,120],[114,119,108,111,99,107],[99,111,110,100],[102,117,116,117,114,101],[116,104,114,101,97,100],[105,102],[101,108,115,101],[119,104,105,108,101],[108,111,99,107],[114,101,97,100],[119,114,105,116,101],[116,114,97,110,115,97,99,116,105,111,110],[97,116,111,109,105,99],[119,97,105,116],[110,111,116,105,102,121],[110,111,116,105,102,121,97,108,108],[115,112,97,119,110],[106,111,105,110],[115,101,116],[103,101,116]]
def uz (l:List UInt8):Bool:=xP.contains l
def U8:List (List UInt8):=[[124,124],[38,38],[61,61],[33,61],[60,61],[62,61],[60],[62],[43],[45],[42],[47],[37],[33],[61],[40],[41],[91],[93],[123],[125],[44],[59]]
def Pw (l:List UInt8):List UInt8:=(U8.find? fun g=>g.isPrefixOf l).getD []
def val (l:List UInt8):Nat:=l.foldl (fun n c=>10 * n + (c.toNat - 48)) 0
def Qk (l:List UInt8):Bool:=decide (val l≤9223372036854775807)
def iM (l:List UInt8):Bool:=(decide (1≤l.length) && decide (l.length≤12) && !uz l) && (l.head?.any xY && l.all qL)
structure Tok where
 kind:Nat
 text:List UInt8
 line:Nat
def Q5 (l:List UInt8):Nat × Nat × List UInt8:=
 if 12 < (l.takeWhile qL).length then (2,0,[]) else (0,if uz (l.takeWhile qL) then 3 else 1,l.takeWhile qL)
def RU (l:List UInt8):Nat × Nat × List UInt8:=
 if ((l.dropWhile Ho).head?.any qL) || !Qk (l.takeWhile Ho) then (3,0,[]) else (0,2,l.takeWhile Ho)
def SI (l:List UInt8):Nat × Nat × List UInt8:=
 if (Pw l).isEmpty then (3,0,[]) else (0,4,Pw l)
def first (l:List UInt8):Nat × Nat × List UInt8:=
 if xY (l.headD 0) then Q5 l else if Ho (l.headD 0) then RU l else SI l
def Tok.cells (t:Tok):List Value:=[.int .i64 t.kind,.string ⟨t.text.toArray⟩,.int .i64 t.line]
def cellsOf (l:List Tok):List Value:=l.flatMap Tok.cells
end Go.Proofs.YtnknfoibmgphnaaDoor.Tk
end
section
namespace Go.Proofs.YtnknfoibmgphnaaDoor.Tk
def nH (t s:ByteArray):Prop:=t.data.toList.dropWhile (· == 48)=s.data.toList.dropWhile (· == 48)
theorem nH.refl (s:ByteArray):nH s s:=rfl
theorem rF (t:ByteArray) (h:0 < t.size):t.data.toList=t[0] ::t.data.toList.drop 1:=by
 have h':0 < t.data.toList.length:=by rw [← Lib.size_eq]; exact h
 have:=List.drop_eq_getElem_cons h'
 rw [List.drop_zero] at this
 exact this
theorem nH.step {t s:ByteArray} (h:nH t s) (h0:0 < t.size) (he:t[0]=48):nH (t.extract 1 t.size) s:=by
 unfold nH at h ⊢
 rw [Lib.extract_data,← h]
 conv=>rhs; rw [rF t h0]
 rw [List.dropWhile_cons,if_pos (by rw [he]; rfl),List.take_of_length_le (by simp)]
theorem nH.done {t s:ByteArray} (h:nH t s) (he: ∀h0:0 < t.size,t[0]≠48):t=⟨(s.data.toList.dropWhile (· == 48)).toArray⟩:=by
 unfold nH at h
 rw [← h]
 have e:t.data.toList.dropWhile (· == 48)=t.data.toList:=by
  by_cases h0:0 < t.size
  ·rw [rF t h0,List.dropWhile_cons,if_neg (by simpa using he h0)]
  ·have:t.data.toList.length=0:=by rw [← Lib.size_eq]; omega
   rw [List.eq_nil_of_length_eq_zero this]; rfl
 rw [e]
end Go.Proofs.YtnknfoibmgphnaaDoor.Tk
end
section
namespace Go.Proofs.YtnknfoibmgphnaaDoor
open Go.RowKit
theorem Br (w:World) (cs:List Value) (t:TypeId) (k:Nat):(w.alloc (.cells cs.toArray t)).cell? ⟨w.heap.size,k,none⟩=cs[k]?:=by
 rw [cell_of_row _ w.heap.size k cs.toArray t (0,0) (heap_alloc_new w _)]
 simp
end Go.Proofs.YtnknfoibmgphnaaDoor
end
section
namespace Go.Proofs.YtnknfoibmgphnaaDoor
open Go.RowKit
def tX (k:Nat):List UInt8:=Tk.xP.getD k []
def Az (k:Nat):ByteArray:=⟨(tX k).toArray⟩
theorem Dm (k:Nat) (h:k < Tk.xP.length):tX k=Tk.xP[k]:=by unfold tX; simp [h]
theorem aW {a b:Bool} (h:a=b):Ending.returned (.bool a)= .returned (.bool b):=by rw [h]
theorem aS {k:IntKind} {a b:Int} (h:a=b):Ending.returned (.int k a)= .returned (.int k b):=by rw [h]
def yC:Array Value:=(Tk.xP.map fun l=>Value.string ⟨l.toArray⟩).toArray
def dZ (w:World):Prop:= ∃t fr,w.heap[0]? =some (.cells yC t fr)
theorem dZ.below {B:Nat} {w w':World} (h:dZ w) (hb:Below B w w') (hB:0 < B):dZ w':=by
 obtain ⟨t,fr,h⟩:=h
 exact ⟨t,fr,(hb.block _ hB).trans h⟩
theorem dZ.lt {w:World} (h:dZ w):0 < w.heap.size:=by
 obtain ⟨t,fr,h⟩:=h
 exact (Array.getElem?_eq_some_iff.1 h).1
theorem dZ.same {w w':World} (h:dZ w) (hb:Below w.heap.size w w'):dZ w':=h.below hb h.lt
theorem dZ.alloc {w:World} (h:dZ w) (o:Obj):dZ (w.alloc o):=h.same ((Below.refl _ _).alloc (Nat.le_refl _) o)
theorem JJ (k:Nat) (hk:k < 22) (w:World):(Instr.index 88 (.agg yC) (.int .i64 (k:Int))).run Tryd.prog w= .ok (.string (Az k)) w:=by
 rcases (show k=0∨k=1∨k=2∨k=3∨k=4∨k=5∨k=6∨k=7∨k=8∨k=9∨k=10∨k=11∨k=12∨k=13∨k=14∨k=15∨k=16∨k=17∨k=18∨k=19∨k=20∨k=21 by omega) with rfl | rfl | rfl | rfl | rfl | rfl | rfl | rfl | rfl | rfl | rfl | rfl | rfl | rfl | rfl | rfl | rfl | rfl | rfl | rfl | rfl | rfl <;> kernel_rfl
theorem yZ (k:Nat):(Az k).toList=tX k:=by
 unfold Az; rw [Lib.toList_data]
theorem Ht (k:Nat) (hk:k < 22) (l:List UInt8) (h:(l == tX k)=true):Tk.uz l=true:=by
 have hl:Tk.xP.length=22:=rfl
 unfold Tk.uz
 rw [List.contains_iff_mem,show l=tX k from by simpa using h,Dm _ (by omega)]
 exact List.getElem_mem _
theorem Lb (l:List UInt8) (h: ∀k < 22,(l == tX k)=false):Tk.uz l=false:=by
 have hl:Tk.xP.length=22:=rfl
 unfold Tk.uz
 rw [Bool.eq_false_iff]
 intro hc
 rw [List.contains_iff_mem] at hc
 obtain ⟨k,hk,e⟩:=List.getElem_of_mem hc
 have:=h k (by omega)
 rw [Dm _ hk,e] at this
 simp at this
def Eh (l:List UInt8) (k:Nat):Prop:= ∀j < k,(l == tX j)=false
theorem Eh.step {l:List UInt8} {k:Nat} (h:Eh l k) (hk:(l == tX k)=false):Eh l (k + 1):=by
 intro j hj
 by_cases e:j=k
 ·subst e; exact hk
 ·exact h j (by omega)
set_option maxHeartbeats 400000 in
theorem wV (s:ByteArray) (w:World) (h:dZ w):
 Calls Tryd.prog 41 #[.string s] w fun e w'=>e= .returned (.bool (Tk.uz s.data.toList))∧w=w':=by
 obtain ⟨t,fr,hg⟩:=h
 rw [← Lib.toList_data]
 go_enter Tryd.func41,Tryd.ntmps41
 go_wp2_with (refine wpList_load_row rfl 88 _ rfl 0 rfl t _ fr _ hg Tryd.underlying88 rfl (by kernel_rfl) ?_)
 clear hg
 go_loop [6] (fun i=> ∃k:Nat,k≤22∧i= .int .i64 k∧Eh s.toList k) (fun i=>22 - (intOf i).toNat)
 case atStart=>exact ⟨0,Nat.zero_le _,rfl,fun j hj=>absurd hj (by omega)⟩
 case round=>
  obtain ⟨k,hk,rfl,hno⟩:=hrel
  by_cases hlt:k < 22
  ·have hix:=JJ k hlt
   have hat:=yZ k
   by_cases he:(s.toList == tX k)=true
   ·go_wp2
    go_ret
    exact ⟨aW (Ht k hlt _ he).symm,rfl⟩
   ·have he':(s.toList == tX k)=false:=by simpa using he
    clear he
    go_wp2
    go_round
    case rel=>exact ⟨k + 1,by omega,by go_num,hno.step he'⟩
    case measure=>simp [intOf]; omega
  ·obtain rfl:k=22:=by omega
   go_wp2
   go_ret
   exact ⟨aW (Lb _ hno).symm,rfl⟩
end Go.Proofs.YtnknfoibmgphnaaDoor
end
section
namespace Go.Proofs.YtnknfoibmgphnaaDoor
open Go.RowKit
theorem Nh (c:UInt8):Tk.qL c=((Tk.xY c || Tk.Ho c) || ((c.toNat:Int) == 95)):=rfl
theorem Jw (c:UInt8) (h:Tk.xY c=true):Tk.qL c=true:=by rw [Nh,h]; rfl
end Go.Proofs.YtnknfoibmgphnaaDoor
end
