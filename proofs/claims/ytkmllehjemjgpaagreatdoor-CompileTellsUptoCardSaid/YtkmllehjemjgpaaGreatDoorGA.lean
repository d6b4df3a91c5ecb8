/- Plain functions of the token layer: what a text's tokens are, over lists of bytes. No program in sight. And what hangs on it. -/
import Derived.Lib.Strings
import Derived.Lib.Bytealg
import Derived.Lib.TrimByte
import Derived.Laws.Strings
import Derived.Test.YtkmllehjemjgpaaGreatDoorChecked
import Derived.WalkKit
import Derived.WalkSpells
import Derived.WalkLawsBesides
import Derived.Lib.Walk
import Derived.Lib.Hide
import Derived.Deep.Light
import Derived.Laws.Strings2
set_option linter.unusedSimpArgs false
set_option linter.unusedVariables false
set_option maxHeartbeats 40000000
set_option maxRecDepth 1000000
section
namespace Go.Proofs.YtkmllehjemjgpaaGreatDoor.Tk
def qU (c:Int):Bool:=(decide (97<=c)&&decide (c<=122))||(decide (65<=c)&&decide (c<=90))
def qz (c:Int):Bool:=decide (48<=c)&&decide (c<=57)
def Kj (c:Int):Bool:=(qU c||qz c)||c==95
def zC (c:UInt8):Bool:=qU c.toNat
def kJ (c:UInt8):Bool:=qz c.toNat
def kr (c:UInt8):Bool:=Kj c.toNat
def Fq:List (List UInt8):=[[118,97,114],[118,111,108,97,116,105,108,101],[109,117,116,101,120],[114,119,108,111,99,107],[99,111,110,100],[102,117,116,117,114,101],[116,104,114,101,97,100],[105,102],[101,108,115,101],[119,104,105,108,101],[108,111,99,107],[114,101,97,100],[119,114,105,116,101],[116,114,97,110,115,97,99,116,105,111,110],[97,116,111,109,105,99],[119,97,105,116],[110,111,116,105,102,121],[110,111,116,105,102,121,97,108,108],[115,112,97,119,110],[106,111,105,110],[115,101,116],[103,101,116]]
def sS (l:List UInt8):Bool:=Fq.contains l
def sgs:List (List UInt8):=[[124,124],[38,38],[61,61],[33,61],[60,61],[62,61],[60],[62],[43],[45],[42],[47],[37],[33],[61],[40],[41],[91],[93],[123],[125],[44],[59]]
def nC (l:List UInt8):List UInt8:=(sgs.find? λg=>g.isPrefixOf l).getD []
def val (l:List UInt8):Nat:=l.foldl (λn c=>10*n+(c.toNat -48)) 0
def wX (l:List UInt8):Bool:=decide (val l<=9223372036854775807)
def iC (l:List UInt8):Bool:=(decide (1<=l.length)&&decide (l.length<=12)&& !sS l)&&(l.head?.any zC&&l.all kr)
structure Tok where
 kind:Nat
 text:List UInt8
 line:Nat
def su (l:List UInt8):Nat×Nat×List UInt8:=
 if 12<(l.takeWhile kr).length then(2,0,[])else(0,if sS (l.takeWhile kr)then 3 else 1,l.takeWhile kr)
def AU (l:List UInt8):Nat×Nat×List UInt8:=
 if((l.dropWhile kJ).head?.any kr)|| !wX (l.takeWhile kJ)then(3,0,[])else(0,2,l.takeWhile kJ)
def Ko (l:List UInt8):Nat×Nat×List UInt8:=
 if(nC l).isEmpty then(3,0,[])else(0,4,nC l)
def first (l:List UInt8):Nat×Nat×List UInt8:=
 if zC (l.headD 0)then su l else if kJ (l.headD 0)then AU l else Ko l
def kX:Nat->List UInt8->Nat->List Tok->List Tok×Nat×Nat
 |_,[],_,acc=>(acc,0,0)
 |0,_::_,_,acc=>(acc,0,0)
 |f+1,c::r,line,acc=>
  if c=10 then kX f r (line+1) acc
  else if c=32∨c=9∨c=13 then kX f r line acc
  else if [47,47].isPrefixOf (c::r)then kX f ((c::r).dropWhile (· != 10)) line acc
  else if(first (c::r)).1=0 then kX f ((c::r).drop (first (c::r)).2.2.length) line (acc++[⟨(first (c::r)).2.1,(first (c::r)).2.2,line⟩])
  else([],(first (c::r)).1,line)
def scan (l:List UInt8):List Tok×Nat×Nat:=
 if 4096<l.length then([],2,0)else kX l.length l 1 []
def Tok.cells (t:Tok):List Value:=[.int .i64 t.kind,.string ⟨t.text.toArray⟩,.int .i64 t.line]
def cellsOf (l:List Tok):List Value:=l.flatMap Tok.cells
end Go.Proofs.YtkmllehjemjgpaaGreatDoor.Tk
end
section
namespace Go.Proofs.YtkmllehjemjgpaaGreatDoor.Tk
theorem E9 (p:UInt8->Bool): ∀(l:List UInt8) (n:Nat),n<=l.length->(∀j (h:j<l.length),j<n->p l[j]=true)->(∀h:n<l.length,p l[n]=false)->(l.takeWhile p).length=n
 | [],n,hn,_,_=>by simp at hn;simp[hn]
 |c::l,0,_,_,h2=>by have:=h2 (by simp);simp only[List.getElem_cons_zero]at this;simp[this]
 |c::l,n+1,hn,h1,h2=>by
  have h0:=h1 0 (by simp) (by omega);simp only[List.getElem_cons_zero]at h0;rw[List.takeWhile_cons,if_pos h0,List.length_cons];congr 1;refine E9 p l n (by simpa using hn) (λj h hj=> ?_) (λh=> ?_)
  ·have:=h1 (j+1) (by simpa using h) (by omega);simpa using this
  ·have:=h2 (by simpa using h);simpa using this
theorem take_takeWhile (p:UInt8->Bool): ∀(l:List UInt8),l.take (l.takeWhile p).length=l.takeWhile p
 | []=>rfl
 |c::l=>by
  rw[List.takeWhile_cons];split
  ·simp[take_takeWhile p l]
  ·rfl
theorem tL (p:UInt8->Bool): ∀(l:List UInt8),l.drop (l.takeWhile p).length=l.dropWhile p
 | []=>rfl
 |c::l=>by
  rw[List.takeWhile_cons,List.dropWhile_cons];split
  ·simp[tL p l]
  ·rfl
theorem yO (p:UInt8->Bool): ∀l:List UInt8,(l.takeWhile p).length<=l.length
 | []=>Nat.le_refl _
 |c::l=>by rw[List.takeWhile_cons];have:=yO p l;split <;> simp <;> omega
theorem AL (c:UInt8): ∀l:List UInt8,Lib.indexByte l c=if(l.takeWhile (· != c)).length<l.length then((l.takeWhile (· != c)).length:Int)else -1
 | []=>rfl
 |b::l=>by
  unfold Lib.indexByte;rw[AL c l,List.takeWhile_cons];by_cases h:b=c
  ·subst h;simp
  ·have h1:(b==c)=false:=by simpa using h
   have h2:(b != c)=true:=by simpa using h
   rw[h1,h2,if_pos rfl,if_neg (by simp),List.length_cons,List.length_cons];generalize (l.takeWhile (· != c)).length=n;by_cases h3:n<l.length
   ·have h4:n+1<l.length+1:=(by omega);have h5:((n:Int)== -1)=false:=(by simp);simp[h3,h5]
   ·have h4: ¬n+1<l.length+1:=(by omega);simp[h3]
def DY (l:List UInt8):Nat:=(l.takeWhile (· != 10)).length
theorem Us (l:List UInt8):DY l<=l.length:=yO _ _
theorem aq2 (l:List UInt8) (h:0<=Lib.indexByte l 10):Lib.indexByte l 10=DY l:=by
 rw[AL]at h⊢;by_cases h3:(l.takeWhile (· != 10)).length<l.length
 ·rw[if_pos h3];rfl
 ·rw[if_neg h3]at h;omega
theorem aq3 (l:List UInt8) (h:Lib.indexByte l 10<0):l.length=DY l:=by
 rw[AL]at h;by_cases h3:(l.takeWhile (· != 10)).length<l.length
 ·rw[if_pos h3]at h;omega
 ·have:=yO (· != 10) l;unfold DY;omega
def oI (t s:ByteArray):Prop:=t.data.toList.dropWhile (· ==48)=s.data.toList.dropWhile (· ==48)
theorem oI.refl (s:ByteArray):oI s s:=rfl
theorem sN (t:ByteArray) (h:0<t.size):t.data.toList=t[0]::t.data.toList.drop 1:=by
 have h':0<t.data.toList.length:=by rw[<- Lib.size_eq];exact h
 have:=List.drop_eq_getElem_cons h';rw[List.drop_zero]at this;exact this
theorem oI.step {t s:ByteArray} (h:oI t s) (h0:0<t.size) (he:t[0]=48):oI (t.extract 1 t.size) s:=by
 unfold oI at h⊢;rw[Lib.extract_data,<- h]
 conv=>rhs;rw[sN t h0]
 rw[List.dropWhile_cons,if_pos (by rw[he];rfl),List.take_of_length_le (by simp)]
theorem oI.done {t s:ByteArray} (h:oI t s) (he: ∀h0:0<t.size,t[0]≠48):t=⟨(s.data.toList.dropWhile (· ==48)).toArray⟩:=by
 unfold oI at h;rw[<- h];have e:t.data.toList.dropWhile (· ==48)=t.data.toList:=by
  by_cases h0:0<t.size
  ·rw[sN t h0,List.dropWhile_cons,if_neg (by simpa using he h0)]
  ·have:t.data.toList.length=0:=by rw[<- Lib.size_eq];omega
   rw[List.eq_nil_of_length_eq_zero this];rfl
 rw[e]
end Go.Proofs.YtkmllehjemjgpaaGreatDoor.Tk
end
section
namespace Go.Proofs.YtkmllehjemjgpaaGreatDoor
open Go.RowKit
def aj (p:Prop):Prop:=p
theorem aj.o {p:Prop} (h:aj p):p:=h
theorem ah {p:Prop} (h:p):aj p:=h
theorem bP {α:Type} :(∀l:List α,[]++l=l)∧∀(a:α) (l m:List α),(a::l)++m=a::(l++m):=⟨λ_=>rfl,λ_ _ _=>rfl⟩
theorem LD (w:World) (cs:List Value) (t:TypeId) (k:Nat):(w.alloc (.cells cs.toArray t)).cell? ⟨w.heap.size,k,none⟩=cs[k]?:=by
 rw[cell_of_row _ w.heap.size k cs.toArray t (0,0) (heap_alloc_new w _)];simp
end Go.Proofs.YtkmllehjemjgpaaGreatDoor
end
section
namespace Go.Proofs.YtkmllehjemjgpaaGreatDoor
open Go.RowKit
def AO (k:Nat):List UInt8:=Tk.Fq.getD k []
def Kk (k:Nat):ByteArray:=⟨(AO k).toArray⟩
theorem Oy (k:Nat) (h:k<Tk.Fq.length):AO k=Tk.Fq[k]:=by unfold AO;simp[h]
theorem aZ {a b:Bool} (h:a=b):Ending.returned (.bool a)= .returned (.bool b):=by rw[h]
theorem aV {k:IntKind} {a b:Int} (h:a=b):Ending.returned (.int k a)= .returned (.int k b):=by rw[h]
def Gc:Array Value:=(Tk.Fq.map λl=>Value.string ⟨l.toArray⟩).toArray
def dD (w:World):Prop:= ∃t fr,w.heap[0]? =some (.cells Gc t fr)
theorem dD.below {B:Nat} {w w':World} (h:dD w) (hb:Below B w w') (hB:0<B):dD w':=by
 obtain⟨t,fr,h⟩:=h;exact⟨t,fr,(hb.block _ hB).trans h⟩
theorem dD.lt {w:World} (h:dD w):0<w.heap.size:=by
 obtain⟨t,fr,h⟩:=h;exact(Array.getElem?_eq_some_iff.1 h).1
theorem dD.same {w w':World} (h:dD w) (hb:Below w.heap.size w w'):dD w':=h.below hb h.lt
theorem dD.alloc {w:World} (h:dD w) (o:Obj):dD (w.alloc o):=h.same ((Below.refl _ _).alloc (Nat.le_refl _) o)
theorem Yf (k:Nat) (hk:k<22) (w:World):(Instr.index 161 (.agg Gc) (.int .i64 (k:Int))).run Tryz.prog w= .ok (.string (Kk k)) w:=by
 rcases(show k=0∨k=1∨k=2∨k=3∨k=4∨k=5∨k=6∨k=7∨k=8∨k=9∨k=10∨k=11∨k=12∨k=13∨k=14∨k=15∨k=16∨k=17∨k=18∨k=19∨k=20∨k=21 by omega)with rfl|rfl|rfl|rfl|rfl|rfl|rfl|rfl|rfl|rfl|rfl|rfl|rfl|rfl|rfl|rfl|rfl|rfl|rfl|rfl|rfl|rfl <;> kernel_rfl
theorem GR (k:Nat):(Kk k).toList=AO k:=by
 unfold Kk;rw[Lib.toList_data]
theorem Vn (k:Nat) (hk:k<22) (l:List UInt8) (h:(l==AO k)=true):Tk.sS l=true:=by
 have hl:Tk.Fq.length=22:=rfl;unfold Tk.sS;rw[List.contains_iff_mem,show l=AO k from by simpa using h,Oy _ (by omega)];exact List.getElem_mem _
theorem ZN (l:List UInt8) (h: ∀k<22,(l==AO k)=false):Tk.sS l=false:=by
 have hl:Tk.Fq.length=22:=rfl;unfold Tk.sS;rw[Bool.eq_false_iff];intro hc;rw[List.contains_iff_mem]at hc;obtain⟨k,hk,e⟩:=List.getElem_of_mem hc;have:=h k (by omega);rw[Oy _ hk,e]at this;simp at this
def Ng (l:List UInt8) (k:Nat):Prop:= ∀j<k,(l==AO j)=false
theorem Ng.step {l:List UInt8} {k:Nat} (h:Ng l k) (hk:(l==AO k)=false):Ng l (k+1):=by
 intro j hj;by_cases e:j=k
 ·subst e;exact hk
 ·exact h j (by omega)
theorem yU (s:ByteArray) (w:World) (h:dD w):
 Calls Tryz.prog 79 #[.string s] w λe w'=>e= .returned (.bool (Tk.sS s.data.toList))∧w=w':=by
 obtain⟨t,fr,hg⟩:=h;rw[<- Lib.toList_data];go_enter Tryz.func79,Tryz.ntmps79;go_wp2_with (refine wpList_load_row rfl 161 _ rfl 0 rfl t _ fr _ hg Tryz.underlying161 rfl (by kernel_rfl) ?_);clear hg;go_loop [6] (λi=> ∃k:Nat,k<=22∧i= .int .i64 k∧Ng s.toList k) (λi=>22 -(intOf i).toNat)
 case atStart=>exact⟨0,Nat.zero_le _,rfl,λj hj=>absurd hj (by omega)⟩
 case round=>
  obtain⟨k,hk,rfl,hno⟩:=hrel;by_cases hlt:k<22
  ·have hix:=Yf k hlt;have hat:=GR k;by_cases he:(s.toList==AO k)=true
   ·go_wp2;go_ret;exact⟨aZ (Vn k hlt _ he).symm,rfl⟩
   ·have he':(s.toList==AO k)=false:=(by simpa using he);clear he;go_wp2;go_round
    case rel=>exact⟨k+1,by omega,by go_num,hno.step he'⟩
    case measure=>simp[intOf];omega
  ·obtain rfl:k=22:=by omega
   go_wp2;go_ret;exact⟨aZ (ZN _ hno).symm,rfl⟩
end Go.Proofs.YtkmllehjemjgpaaGreatDoor
end
section
namespace Go.Proofs.YtkmllehjemjgpaaGreatDoor
open Go.RowKit
theorem ax2 (c:UInt8):Tk.kr c=((Tk.zC c||Tk.kJ c)||((c.toNat:Int)==95)):=rfl
theorem Ov (c:UInt8) (h:Tk.zC c=true):Tk.kr c=true:=by rw[ax2,h];rfl
theorem BD (c:UInt8):(Tk.kr c=true∧Tk.qU (c.toNat:Int)=true)∨(Tk.kr c=true∧Tk.qU (c.toNat:Int)=false∧Tk.qz (c.toNat:Int)=true)∨
 (Tk.kr c=true∧Tk.qU (c.toNat:Int)=false∧Tk.qz (c.toNat:Int)=false∧((c.toNat:Int)==95)=true)∨
 (Tk.kr c=false∧Tk.qU (c.toNat:Int)=false∧Tk.qz (c.toNat:Int)=false∧((c.toNat:Int)==95)=false):=by
 have e:Tk.kr c=((Tk.qU (c.toNat:Int)||Tk.qz (c.toNat:Int))||((c.toNat:Int)==95)):=rfl;rw[e];cases Tk.qU (c.toNat:Int) <;> cases Tk.qz (c.toNat:Int) <;> cases ((c.toNat:Int)==95) <;> simp
end Go.Proofs.YtkmllehjemjgpaaGreatDoor
end
section
namespace Go.Proofs.YtkmllehjemjgpaaGreatDoor.Tk
theorem zW (c:UInt8):kJ c=true↔48<=c.toNat∧c.toNat<=57:=by
 unfold kJ qz;simp only[Bool.and_eq_true,decide_eq_true_eq];omega
theorem UJ (l:List UInt8): ∀n:Nat,l.foldl (λn c=>10*n+(c.toNat -48)) n=n*10 ^ l.length+val l:=by
 induction l with
 |nil=>intro n;simp[val]
 |cons c l ih=>intro n;have h0:=ih (10*0+(c.toNat -48));have h1:=ih (10*n+(c.toNat -48));unfold val;simp only[List.foldl_cons];rw[h1,h0,List.length_cons,Nat.pow_succ];simp only[Nat.mul_zero,Nat.zero_add,Nat.add_mul];rw[Nat.add_assoc,Nat.mul_comm 10 n,Nat.mul_assoc,Nat.mul_comm 10]
theorem vF (c:UInt8) (l:List UInt8):val (c::l)=(c.toNat -48)*10 ^ l.length+val l:=by
 have:=UJ l (10*0+(c.toNat -48));unfold val at *;simp only[List.foldl_cons];rw[this];simp
theorem CV: ∀(l:List UInt8),l.all kJ=true->val l<10 ^ l.length
 | [],_=>by simp[val]
 |c::l,h=>by rw[List.all_cons,Bool.and_eq_true,zW]at h;have:=CV l h.2;rw[vF,List.length_cons,Nat.pow_succ];have h9:(c.toNat -48)*10 ^ l.length<=9*10 ^ l.length:=Nat.mul_le_mul_right _ (by omega);omega
theorem aA7 (c:UInt8) (l:List UInt8) (h:kJ c=true) (h0:c≠48):10 ^ l.length<=val (c::l):=by
 rw[zW]at h;have hc:c.toNat≠48:=λe=>h0 (UInt8.toNat_inj.1 e);rw[vF];have:1*10 ^ l.length<=(c.toNat -48)*10 ^ l.length:=Nat.mul_le_mul_right _ (by omega);omega
theorem DK: ∀l:List UInt8,val (l.dropWhile (· ==48))=val l
 | []=>rfl
 |c::l=>by
  rw[List.dropWhile_cons];split
  ·rename_i h;have:c=48:=by simpa using h
   subst this;rw[DK l,vF];simp
  ·rfl
theorem Dc (p q:UInt8->Bool): ∀l:List UInt8,l.all p=true->(l.dropWhile q).all p=true
 | [],_=>rfl
 |c::l,h=>by
  rw[List.dropWhile_cons];split
  ·rw[List.all_cons,Bool.and_eq_true]at h;exact Dc p q l h.2
  ·exact h
theorem OA: ∀(a b:List UInt8),a.all kJ=true->b.all kJ=true->a.length=b.length->Op.bytesLess a b=decide (val a<val b)
 | [],[],_,_,_=>rfl
 |a::x,b::y,ha,hb,hl=>by
  rw[List.all_cons,Bool.and_eq_true]at ha hb;have hl':x.length=y.length:=by simpa using hl
  have ih:=OA x y ha.2 hb.2 hl';have hx:=CV x ha.2;have hy:=CV y hb.2;have h1:=(zW a).1 ha.1;have h2:=(zW b).1 hb.1;unfold Op.bytesLess;rw[ih,vF,vF,hl'];rw[hl']at hx;generalize 10 ^ y.length=T at *;rcases Nat.lt_trichotomy a.toNat b.toNat with h|h|h
  ·have e1:a<b:=UInt8.lt_iff_toNat_lt.2 h;have:(a.toNat -48)*T+T<=(b.toNat -48)*T:=by
    have:=Nat.mul_le_mul_right T (show a.toNat -48+1<=b.toNat -48 by omega)
    rwa [Nat.add_mul,Nat.one_mul]at this
   have e2:(a.toNat -48)*T+val x<(b.toNat -48)*T+val y:=by omega
   simp[e1,e2]
  ·have e1:a=b:=UInt8.toNat_inj.1 h;subst e1;have e2: ¬a<a:=by rw[UInt8.lt_iff_toNat_lt];omega
   simp
  ·have e1: ¬a<b:=by rw[UInt8.lt_iff_toNat_lt];omega
   have e2:a≠b:=λe=>by rw[e]at h;omega
   have:(b.toNat -48)*T+T<=(a.toNat -48)*T:=by
    have:=Nat.mul_le_mul_right T (show b.toNat -48+1<=a.toNat -48 by omega)
    rwa [Nat.add_mul,Nat.one_mul]at this
   have e3: ¬(a.toNat -48)*T+val x<(b.toNat -48)*T+val y:=by omega
   simp[e1,e2,e3]
 | [],_::_,_,_,h=>by simp at h
 |_::_,[],_,_,h=>by simp at h
theorem val_inj: ∀(a b:List UInt8),a.all kJ=true->b.all kJ=true->a.length=b.length->val a=val b->a=b
 | [],[],_,_,_,_=>rfl
 |a::x,b::y,ha,hb,hl,hv=>by
  rw[List.all_cons,Bool.and_eq_true]at ha hb;have hl':x.length=y.length:=by simpa using hl
  have hx:=CV x ha.2;have hy:=CV y hb.2;have h1:=(zW a).1 ha.1;have h2:=(zW b).1 hb.1;have hv':=hv;rw[vF,vF,hl']at hv;rw[hl']at hx;have hab:a.toNat=b.toNat:=by
   generalize 10 ^ y.length=T at *;rcases Nat.lt_trichotomy a.toNat b.toNat with h|h|h
   ·have:=Nat.mul_le_mul_right T (show a.toNat -48+1<=b.toNat -48 by omega);rw[Nat.add_mul,Nat.one_mul]at this;omega
   ·exact h
   ·have:=Nat.mul_le_mul_right T (show b.toNat -48+1<=a.toNat -48 by omega);rw[Nat.add_mul,Nat.one_mul]at this;omega
  obtain rfl:a=b:=UInt8.toNat_inj.1 hab;rw[val_inj x y ha.2 hb.2 hl' (by omega)]
 | [],_::_,_,_,h,_=>by simp at h
 |_::_,[],_,_,h,_=>by simp at h
def great:List UInt8:=[57,50,50,51,51,55,50,48,51,54,56,53,52,55,55,53,56,48,55]
theorem Bv:val great=9223372036854775807:=by decide
theorem Lr:great.all kJ=true:=by decide
theorem Ls:great.length=19:=rfl
theorem SI (l:List UInt8) (h:l.all kJ=true) (hl:19<(l.dropWhile (· ==48)).length):wX l=false:=by
 have ht:=Dc kJ (· ==48) l h;unfold wX;rw[<- DK l];have hh: ∀c r,l.dropWhile (· ==48)=c::r->c≠48:=by intro c r e;have:=List.head?_dropWhile_not (· ==48) l;rw[e]at this;simpa using this
 generalize l.dropWhile (· ==48)=t at *
 match t,hl,ht,hh with
 |c::r,hl,ht,hh=>rw[List.all_cons,Bool.and_eq_true]at ht;have h1:=aA7 c r ht.1 (hh c r rfl);have h2:10 ^ 19<=10 ^ r.length:=Nat.pow_le_pow_right (by omega) (by simp at hl;omega);have h3:(10:Nat) ^ 19=10000000000000000000:=rfl;rw[h3]at h2;simp only[decide_eq_false_iff_not];omega
theorem PS (l:List UInt8) (h:l.all kJ=true) (hl:(l.dropWhile (· ==48)).length<19):wX l=true:=by
 have ht:=Dc kJ (· ==48) l h;unfold wX;rw[<- DK l];generalize l.dropWhile (· ==48)=t at *;have h1:=CV t ht;have h2:10 ^ t.length<=10 ^ 18:=Nat.pow_le_pow_right (by omega) (by omega);have h3:(10:Nat) ^ 18=1000000000000000000:=rfl;rw[h3]at h2;simp only[decide_eq_true_eq];omega
theorem Yp (l:List UInt8) (h:l.all kJ=true) (hl:(l.dropWhile (· ==48)).length=19):
 (!(Op.bytesLess (l.dropWhile (· ==48)) great||(l.dropWhile (· ==48))==great))= !wX l:=by
 have ht:=Dc kJ (· ==48) l h;unfold wX;rw[<- DK l];generalize l.dropWhile (· ==48)=t at *;rw[OA t great ht Lr (by rw[hl,Ls]),Bv];congr 1;by_cases e:val t=9223372036854775807
 ·have:t=great:=val_inj t great ht Lr (by rw[hl,Ls]) (by rw[e,Bv]);rw[this,Bv];simp
 ·have hne:(t==great)=false:=by rw[beq_eq_false_iff_ne];intro e';rw[e',Bv]at e;exact e rfl
  rw[hne,Bool.or_false,decide_eq_decide];omega
def BZ:List (List UInt8):=[[124,124],[38,38],[61,61],[33,61],[60,61],[62,61]]
def Lf:List UInt8:=[60,62,43,45,42,47,37,33,61,40,41,91,93,123,125,44,59]
theorem az5:sgs=BZ++Lf.map λc=>[c]:=rfl
theorem I8 (n:Nat) (l:List UInt8): ∀gs:List (List UInt8),(∀g∈gs,g.length=n)->gs.find? (λg=>g.isPrefixOf l)=if gs.contains (l.take n)then some (l.take n)else none
 | [],_=>rfl
 |g::gs,h=>by
  have hg:g.length=n:=h g (List.mem_cons_self ..);have ih:=I8 n l gs λx hx=>h x (List.mem_cons_of_mem _ hx);rw[List.find?_cons,ih,List.contains_cons];by_cases e:g.isPrefixOf l=true
  ·have e1:l.take n=g:=by obtain⟨r,rfl⟩:=List.isPrefixOf_iff_prefix.1 e;rw[<- hg];simp
   rw[e,e1];simp
  ·have e0:g.isPrefixOf l=false:=Bool.eq_false_iff.2 e;have e1:(l.take n==g)=false:=by rw[beq_eq_false_iff_ne];intro e2;exact e (List.isPrefixOf_iff_prefix.2 (e2 ▸ List.take_prefix _ _))
   rw[e0,e1];simp
theorem CK (l:List UInt8):nC l=if BZ.contains (l.take 2)then l.take 2 else if(Lf.map λc=>[c]).contains (l.take 1)then l.take 1 else []:=by
 unfold nC;rw[az5,List.find?_append,I8 2 l BZ (by decide),I8 1 l (Lf.map λc=>[c]) (by decide)];split
 ·rfl
 ·split <;> rfl
theorem NI (a:UInt8):(Lf.map λc=>[c]).contains [a]=Lf.contains a:=by
 simp[Lf]
theorem Cy (c:UInt8): ∀l:List UInt8,l.contains c=decide (0<=Lib.indexByte l c)
 | []=>rfl
 |b::l=>by
  have ih:=Cy c l;have hg:=Lib.indexByte_ge l c;have hc:Lib.indexByte (b::l) c=if b==c then 0 else if Lib.indexByte l c== -1 then -1 else Lib.indexByte l c+1:=rfl
  rw[List.contains_cons,ih,hc];by_cases h:b=c
  ·subst h;simp
  ·have h1:(b==c)=false:=by simpa using h
   have h2:(c==b)=false:=by simpa using Ne.symm h
   rw[h1,h2];simp only[Bool.false_or,Bool.false_eq_true,if_false,decide_eq_decide];by_cases h3:Lib.indexByte l c= -1
   ·simp[h3]
   ·rw[if_neg (by simpa using h3)];omega
end Go.Proofs.YtkmllehjemjgpaaGreatDoor.Tk
end
section
namespace Go.Proofs.YtkmllehjemjgpaaGreatDoor.Tk
theorem VJ (f line:Nat) (acc:List Tok):kX f [] line acc=(acc,0,0):=by cases f <;> rfl
theorem Pb (p:UInt8->Bool) (c:UInt8) (r:List UInt8) (h:p c=true):1<=((c::r).takeWhile p).length:=by
 rw[List.takeWhile_cons,if_pos h];simp
theorem ad5 (c:UInt8) (h:zC c=true):kr c=true:=by
 have e:kr c=((zC c||kJ c)||((c.toNat:Int)==95)):=rfl;rw[e,h];rfl
theorem UH (c:UInt8) (r:List UInt8) (h:(first (c::r)).1=0):1<=(first (c::r)).2.2.length∧(first (c::r)).2.2.length<=(c::r).length∧(c::r).take (first (c::r)).2.2.length=(first (c::r)).2.2:=by
 have hh:(c::r).headD 0=c:=rfl;unfold first at h⊢;rw[hh]at h⊢;by_cases hL:zC c=true
 ·rw[if_pos hL]at h⊢;unfold su at h⊢;by_cases h12:12<((c::r).takeWhile kr).length
  ·rw[if_pos h12]at h;cases h
  ·rw[if_neg h12];exact⟨Pb _ _ _ (ad5 c hL),yO _ _,take_takeWhile _ _⟩
 ·rw[if_neg hL]at h⊢;by_cases hD:kJ c=true
  ·rw[if_pos hD]at h⊢;unfold AU at h⊢;split at h
   ·cases h
   ·rename_i h2;rw[if_neg h2];exact⟨Pb _ _ _ hD,yO _ _,take_takeWhile _ _⟩
  ·rw[if_neg hD]at h⊢;unfold Ko at h⊢;split at h
   ·cases h
   ·rename_i h2;rw[if_neg h2];have hlen:nC (c::r)≠[]:=λe=>h2 (by rw[e];rfl);refine⟨?_,?_,?_⟩
    ·cases hs:nC (c::r)with
     |nil=>exact absurd hs hlen
     |cons a b=>simp
    ·show(nC (c::r)).length<=_;rw[CK];split
     ·rw[List.length_take];omega
     ·split
      ·rw[List.length_take];omega
      ·simp
    ·show(c::r).take (nC (c::r)).length=nC (c::r);rw[CK];split
     ·rw[List.length_take,List.take_eq_take_iff];omega
     ·split
      ·rw[List.length_take,List.take_eq_take_iff];omega
      ·rfl
theorem YA (f:Nat) (r:List UInt8) (line:Nat) (acc:List Tok):kX (f+1) (10::r) line acc=kX f r (line+1) acc:=by
 rw[kX,if_pos rfl]
theorem PX (f:Nat) (c:UInt8) (r:List UInt8) (line:Nat) (acc:List Tok) (h:c=32∨c=9∨c=13):kX (f+1) (c::r) line acc=kX f r line acc:=by
 have h1:c≠10:=by rcases h with rfl|rfl|rfl <;> decide
 rw[kX,if_neg h1,if_pos h]
theorem VH (f:Nat) (c:UInt8) (r:List UInt8) (line:Nat) (acc:List Tok) (h1:c≠10) (h2: ¬(c=32∨c=9∨c=13)) (h3:[47,47].isPrefixOf (c::r)=true):kX (f+1) (c::r) line acc=kX f ((c::r).dropWhile (· != 10)) line acc:=by
 rw[kX,if_neg h1,if_neg h2,if_pos h3]
theorem VK (f:Nat) (c:UInt8) (r:List UInt8) (line:Nat) (acc:List Tok) (h1:c≠10) (h2: ¬(c=32∨c=9∨c=13)) (h3:[47,47].isPrefixOf (c::r)=false) (h4:(first (c::r)).1=0):
 kX (f+1) (c::r) line acc=kX f ((c::r).drop (first (c::r)).2.2.length) line (acc++[⟨(first (c::r)).2.1,(first (c::r)).2.2,line⟩]):=by
 rw[kX,if_neg h1,if_neg h2,if_neg (by rw[h3];decide),if_pos h4]
theorem VI (f:Nat) (c:UInt8) (r:List UInt8) (line:Nat) (acc:List Tok) (h1:c≠10) (h2: ¬(c=32∨c=9∨c=13)) (h3:[47,47].isPrefixOf (c::r)=false) (h4:(first (c::r)).1≠0):
 kX (f+1) (c::r) line acc=([],(first (c::r)).1,line):=by
 rw[kX,if_neg h1,if_neg h2,if_neg (by rw[h3];decide),if_neg h4]
def SP (l:List UInt8) (R:List Tok×Nat×Nat) (k line:Nat) (acc:List Tok):Prop:=
 k<=l.length∧line<=k+1∧acc.length<=k∧∃f,(l.drop k).length<=f∧kX f (l.drop k) line acc=R
theorem SP.start (l:List UInt8):SP l (kX l.length l 1 []) 0 1 []:=⟨Nat.zero_le _,Nat.le_refl _,Nat.le_refl _,l.length,Nat.le_refl _,rfl⟩
section
variable {l:List UInt8} {R:List Tok×Nat×Nat} {k line:Nat} {acc:List Tok}
theorem SP.cut (h:SP l R k line acc) (hk:k<l.length): ∃f,(l.drop (k+1)).length<=f∧kX (f+1) (l[k]::l.drop (k+1)) line acc=R:=by
 obtain⟨_,_,_,f,hf,hR⟩:=h;rw[List.drop_eq_getElem_cons hk]at hf hR;cases f with
 |zero=>simp at hf;omega
 |succ f=>exact⟨f,by rw[List.length_cons]at hf;omega,hR⟩
theorem SP.nl (h:SP l R k line acc) (hk:k<l.length) (hc:l[k]=10):SP l R (k+1) (line+1) acc:=by
 obtain⟨f,hf,hR⟩:=h.cut hk;rw[hc,YA]at hR;exact⟨hk,by have:=h.2.1;omega,by have:=h.2.2.1;omega,f,hf,hR⟩
theorem SP.blank (h:SP l R k line acc) (hk:k<l.length) (hc:l[k]=32∨l[k]=9∨l[k]=13):SP l R (k+1) line acc:=by
 obtain⟨f,hf,hR⟩:=h.cut hk;rw[PX _ _ _ _ _ hc]at hR;exact⟨hk,by have:=h.2.1;omega,by have:=h.2.2.1;omega,f,hf,hR⟩
theorem SP.DY (h:SP l R k line acc) (hk:k<l.length) (h1:l[k]≠10) (h2: ¬(l[k]=32∨l[k]=9∨l[k]=13)) (h3:[47,47].isPrefixOf (l.drop k)=true):SP l R (k+Tk.DY (l.drop k)) line acc∧1<=Tk.DY (l.drop k):=by
 obtain⟨f,hf,hR⟩:=h.cut hk;have e:=List.drop_eq_getElem_cons hk;rw[e]at h3;rw[VH _ _ _ _ _ h1 h2 h3,<- e,<- tL,List.drop_drop]at hR;have hle:=Us (l.drop k);rw[List.length_drop]at hle;have h1':1<=Tk.DY (l.drop k):=by unfold Tk.DY;rw[e];exact Pb (· != 10) _ _ (by simpa using h1)
 refine⟨⟨by omega,by have:=h.2.1;omega,by have:=h.2.2.1;omega,f,?_,hR⟩,h1'⟩;rw[List.length_drop]at hf⊢;omega
theorem SP.tok (h:SP l R k line acc) (hk:k<l.length) (h1:l[k]≠10) (h2: ¬(l[k]=32∨l[k]=9∨l[k]=13)) (h3:[47,47].isPrefixOf (l.drop k)=false) (h4:(first (l.drop k)).1=0):
 SP l R (k+(first (l.drop k)).2.2.length) line (acc++[⟨(first (l.drop k)).2.1,(first (l.drop k)).2.2,line⟩])∧1<=(first (l.drop k)).2.2.length:=by
 obtain⟨f,hf,hR⟩:=h.cut hk;have e:=List.drop_eq_getElem_cons hk;rw[e]at h3 h4;have hl:=UH _ _ h4;rw[VK _ _ _ _ _ h1 h2 h3 h4,<- e,List.drop_drop]at hR;rw[<- e]at hl h4;rw[List.length_drop]at hl;refine⟨⟨by omega,by have:=h.2.1;omega,?_,f,?_,hR⟩,hl.1⟩
 ·rw[List.length_append];have:=h.2.2.1;simp;omega
 ·rw[List.length_drop]at hf⊢;omega
theorem SP.err (h:SP l R k line acc) (hk:k<l.length) (h1:l[k]≠10) (h2: ¬(l[k]=32∨l[k]=9∨l[k]=13)) (h3:[47,47].isPrefixOf (l.drop k)=false) (h4:(first (l.drop k)).1≠0):
 R=([],(first (l.drop k)).1,line):=by
 obtain⟨f,hf,hR⟩:=h.cut hk;have e:=List.drop_eq_getElem_cons hk;rw[e]at h3 h4;rw[VI _ _ _ _ _ h1 h2 h3 h4,<- e]at hR;exact hR.symm
theorem SP.done (h:SP l R k line acc) (hk: ¬k<l.length):R=(acc,0,0):=by
 obtain⟨_,_,_,f,hf,hR⟩:=h;rw[List.drop_of_length_le (by omega),VJ]at hR;exact hR.symm
end
theorem NH (l m:List Tok):cellsOf (l++m)=cellsOf l++cellsOf m:=by unfold cellsOf;rw[List.flatMap_append]
theorem cells_one (t:Tok):cellsOf [t]=t.cells:=by unfold cellsOf;simp
end Go.Proofs.YtkmllehjemjgpaaGreatDoor.Tk
end
