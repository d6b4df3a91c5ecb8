/- Plain functions of the token layer: what a text's tokens are, over lists of bytes. No program in sight. And what hangs on it. -/
import Derived.Lib.Strings
import Derived.Lib.Bytealg
import Derived.Lib.TrimByte
import Derived.Laws.Strings
import Derived.Test.YtmildapbbcbbhaaGreatDoorChecked
import Derived.WalkKit
import Derived.WalkSpells
import Derived.WalkLawsBesides
import Derived.Lib.Walk
import Derived.Lib.Hide
import Derived.Deep.Light
import Derived.Laws.Strings2
set_option linter.unusedSimpArgs false
set_option linter.unusedVariables false
set_option maxHeartbeats 40000000
set_option maxRecDepth 1000000
section
namespace Go.Proofs.YtmildapbbcbbhaaGreatDoor.Tk
def sH (c:Int):Bool:=(decide (97<=c)&&decide (c<=122))||(decide (65<=c)&&decide (c<=90))
def rG (c:Int):Bool:=decide (48<=c)&&decide (c<=57)
def Mc (c:Int):Bool:=(sH c||rG c)||c==95
def AX (c:UInt8):Bool:=sH c.toNat
def mG (c:UInt8):Bool:=rG c.toNat
def lM (c:UInt8):Bool:=Mc c.toNat
def GX:List (List UInt8):=[[118,97,114],[118,111,108,97,116,105,108,101],[109,117,116,101,120],[114,119,108,111,99,107],[99,111,110,100],[102,117,116,117,114,101],[116,104,114,101,97,100],[105,102],[101,108,115,101],[119,104,105,108,101],[108,111,99,107],[114,101,97,100],[119,114,105,116,101],[116,114,97,110,115,97,99,116,105,111,110],[97,116,111,109,105,99],[119,97,105,116],[110,111,116,105,102,121],[110,111,116,105,102,121,97,108,108],[115,112,97,119,110],[106,111,105,110],[115,101,116],[103,101,116]]
def uG (l:List UInt8):Bool:=GX.contains l
def sgs:List (List UInt8):=[[124,124],[38,38],[61,61],[33,61],[60,61],[62,61],[60],[62],[43],[45],[42],[47],[37],[33],[61],[40],[41],[91],[93],[123],[125],[44],[59]]
def ou (l:List UInt8):List UInt8:=(sgs.find? λg=>g.isPrefixOf l).getD []
def val (l:List UInt8):Nat:=l.foldl (λn c=>10*n+(c.toNat -48)) 0
def yA (l:List UInt8):Bool:=decide (val l<=9223372036854775807)
def jv (l:List UInt8):Bool:=(decide (1<=l.length)&&decide (l.length<=12)&& !uG l)&&(l.head?.any AX&&l.all lM)
structure Tok where
 kind:Nat
 text:List UInt8
 line:Nat
def tX (l:List UInt8):Nat×Nat×List UInt8:=
 if 12<(l.takeWhile lM).length then(2,0,[])else(0,if uG (l.takeWhile lM)then 3 else 1,l.takeWhile lM)
def Cz (l:List UInt8):Nat×Nat×List UInt8:=
 if((l.dropWhile mG).head?.any lM)|| !yA (l.takeWhile mG)then(3,0,[])else(0,2,l.takeWhile mG)
def Mj (l:List UInt8):Nat×Nat×List UInt8:=
 if(ou l).isEmpty then(3,0,[])else(0,4,ou l)
def first (l:List UInt8):Nat×Nat×List UInt8:=
 if AX (l.headD 0)then tX l else if mG (l.headD 0)then Cz l else Mj l
def mO:Nat->List UInt8->Nat->List Tok->List Tok×Nat×Nat
 |_,[],_,acc=>(acc,0,0)
 |0,_::_,_,acc=>(acc,0,0)
 |f+1,c::r,line,acc=>
  if c=10 then mO f r (line+1) acc
  else if c=32∨c=9∨c=13 then mO f r line acc
  else if [47,47].isPrefixOf (c::r)then mO f ((c::r).dropWhile (· != 10)) line acc
  else if(first (c::r)).1=0 then mO f ((c::r).drop (first (c::r)).2.2.length) line (acc++[⟨(first (c::r)).2.1,(first (c::r)).2.2,line⟩])
  else([],(first (c::r)).1,line)
def scan (l:List UInt8):List Tok×Nat×Nat:=
 if 4096<l.length then([],2,0)else mO l.length l 1 []
def Tok.cells (t:Tok):List Value:=[.int .i64 t.kind,.string ⟨t.text.toArray⟩,.int .i64 t.line]
def cellsOf (l:List Tok):List Value:=l.flatMap Tok.cells
end Go.Proofs.YtmildapbbcbbhaaGreatDoor.Tk
end
section
namespace Go.Proofs.YtmildapbbcbbhaaGreatDoor.Tk
theorem FL (p:UInt8->Bool): ∀(l:List UInt8) (n:Nat),n<=l.length->(∀j (h:j<l.length),j<n->p l[j]=true)->(∀h:n<l.length,p l[n]=false)->(l.takeWhile p).length=n
 | [],n,hn,_,_=>by simp at hn;simp[hn]
 |c::l,0,_,_,h2=>by have:=h2 (by simp);simp only[List.getElem_cons_zero]at this;simp[this]
 |c::l,n+1,hn,h1,h2=>by
  have h0:=h1 0 (by simp) (by omega);simp only[List.getElem_cons_zero]at h0;rw[List.takeWhile_cons,if_pos h0,List.length_cons];congr 1;refine FL p l n (by simpa using hn) (λj h hj=> ?_) (λh=> ?_)
  ·have:=h1 (j+1) (by simpa using h) (by omega);simpa using this
  ·have:=h2 (by simpa using h);simpa using this
theorem take_takeWhile (p:UInt8->Bool): ∀(l:List UInt8),l.take (l.takeWhile p).length=l.takeWhile p
 | []=>rfl
 |c::l=>by
  rw[List.takeWhile_cons];split
  ·simp[take_takeWhile p l]
  ·rfl
theorem uX (p:UInt8->Bool): ∀(l:List UInt8),l.drop (l.takeWhile p).length=l.dropWhile p
 | []=>rfl
 |c::l=>by
  rw[List.takeWhile_cons,List.dropWhile_cons];split
  ·simp[uX p l]
  ·rfl
theorem zW (p:UInt8->Bool): ∀l:List UInt8,(l.takeWhile p).length<=l.length
 | []=>Nat.le_refl _
 |c::l=>by rw[List.takeWhile_cons];have:=zW p l;split <;> simp <;> omega
theorem Cu (c:UInt8): ∀l:List UInt8,Lib.indexByte l c=if(l.takeWhile (· != c)).length<l.length then((l.takeWhile (· != c)).length:Int)else -1
 | []=>rfl
 |b::l=>by
  unfold Lib.indexByte;rw[Cu c l,List.takeWhile_cons];by_cases h:b=c
  ·subst h;simp
  ·have h1:(b==c)=false:=by simpa using h
   have h2:(b != c)=true:=by simpa using h
   rw[h1,h2,if_pos rfl,if_neg (by simp),List.length_cons,List.length_cons];generalize (l.takeWhile (· != c)).length=n;by_cases h3:n<l.length
   ·have h4:n+1<l.length+1:=(by omega);have h5:((n:Int)== -1)=false:=(by simp);simp[h3,h5]
   ·have h4: ¬n+1<l.length+1:=(by omega);simp[h3]
def FD (l:List UInt8):Nat:=(l.takeWhile (· != 10)).length
theorem WV (l:List UInt8):FD l<=l.length:=zW _ _
theorem aG0 (l:List UInt8) (h:0<=Lib.indexByte l 10):Lib.indexByte l 10=FD l:=by
 rw[Cu]at h⊢;by_cases h3:(l.takeWhile (· != 10)).length<l.length
 ·rw[if_pos h3];rfl
 ·rw[if_neg h3]at h;omega
theorem aG1 (l:List UInt8) (h:Lib.indexByte l 10<0):l.length=FD l:=by
 rw[Cu]at h;by_cases h3:(l.takeWhile (· != 10)).length<l.length
 ·rw[if_pos h3]at h;omega
 ·have:=zW (· != 10) l;unfold FD;omega
def pX (t s:ByteArray):Prop:=t.data.toList.dropWhile (· ==48)=s.data.toList.dropWhile (· ==48)
theorem pX.refl (s:ByteArray):pX s s:=rfl
theorem uw (t:ByteArray) (h:0<t.size):t.data.toList=t[0]::t.data.toList.drop 1:=by
 have h':0<t.data.toList.length:=by rw[<- Lib.size_eq];exact h
 have:=List.drop_eq_getElem_cons h';rw[List.drop_zero]at this;exact this
theorem pX.step {t s:ByteArray} (h:pX t s) (h0:0<t.size) (he:t[0]=48):pX (t.extract 1 t.size) s:=by
 unfold pX at h⊢;rw[Lib.extract_data,<- h]
 conv=>rhs;rw[uw t h0]
 rw[List.dropWhile_cons,if_pos (by rw[he];rfl),List.take_of_length_le (by simp)]
theorem pX.done {t s:ByteArray} (h:pX t s) (he: ∀h0:0<t.size,t[0]≠48):t=⟨(s.data.toList.dropWhile (· ==48)).toArray⟩:=by
 unfold pX at h;rw[<- h];have e:t.data.toList.dropWhile (· ==48)=t.data.toList:=by
  by_cases h0:0<t.size
  ·rw[uw t h0,List.dropWhile_cons,if_neg (by simpa using he h0)]
  ·have:t.data.toList.length=0:=by rw[<- Lib.size_eq];omega
   rw[List.eq_nil_of_length_eq_zero this];rfl
 rw[e]
end Go.Proofs.YtmildapbbcbbhaaGreatDoor.Tk
end
section
namespace Go.Proofs.YtmildapbbcbbhaaGreatDoor
open Go.RowKit
theorem aO {α:Type _} {a:Array α} {i:Nat} {x:α} (h:a[i]? =some x):i<a.size:=(Array.getElem?_eq_some_iff.1 h).1
theorem ay {α:Type _} {a b:List α} :(a++b).length=a.length+b.length:=List.length_append
theorem aA {α:Type _} {a:α} {l:List α} :(a::l).length=l.length+1:=List.length_cons
theorem aW {α:Type _} :([]:List α).length=0:=List.length_nil
theorem gX {α:Type _} {β:Type _} {l:List α} (f:α->β):(l.map f).length=l.length:=List.length_map f
theorem aG {n m k:Nat} (h:n<m) (g:m<=k):n<k:=Nat.lt_of_lt_of_le h g
theorem aP {n m k:Nat} (h:n<=m) (g:m<=k):n<=k:=Nat.le_trans h g
theorem aB (n:Nat):n<=n:=Nat.le_refl n
theorem bT (n:Nat):0<=n:=Nat.zero_le n
theorem aU (n:Nat):0+n=n:=Nat.zero_add n
theorem gY (n:Nat):n<=n+1:=Nat.le_succ n
theorem cB {n m:Nat} (h:n<m):n<=m:=Nat.le_of_lt h
theorem aJ (a b:Bool):((a&&b)=true)=(a=true∧b=true):=Bool.and_eq_true a b
theorem aI {a b:Prop} (h:a) (g:b):a∧b:=⟨h,g⟩
theorem aV {α:Type _} {a:α} {l:List α} :a∈a::l:=List.mem_cons_self
theorem aX {α:Type _} (b:α) {a:α} {l:List α} (h:a∈l):a∈b::l:=List.mem_cons_of_mem b h
theorem bF {α:Type _} {l:List α} {i:Nat} (h:i<l.length):l[i]? =some l[i]:=List.getElem?_eq_getElem h
theorem ak (B:Nat) (w:World):Below B w w:=Below.refl B w
def aj (p:Prop):Prop:=p
theorem aj.o {p:Prop} (h:aj p):p:=h
theorem ah {p:Prop} (h:p):aj p:=h
theorem dR {α:Type} :(∀l:List α,[]++l=l)∧∀(a:α) (l m:List α),(a::l)++m=a::(l++m):=⟨λ_=>rfl,λ_ _ _=>rfl⟩
theorem NK (w:World) (cs:List Value) (t:TypeId) (k:Nat):(w.alloc (.cells cs.toArray t)).cell? ⟨w.heap.size,k,none⟩=cs[k]?:=by
 rw[cell_of_row _ w.heap.size k cs.toArray t (0,0) (heap_alloc_new w _)];simp
end Go.Proofs.YtmildapbbcbbhaaGreatDoor
end
section
namespace Go.Proofs.YtmildapbbcbbhaaGreatDoor
open Go.RowKit
def Cv (k:Nat):List UInt8:=Tk.GX.getD k []
def Me (k:Nat):ByteArray:=⟨(Cv k).toArray⟩
theorem QC (k:Nat) (h:k<Tk.GX.length):Cv k=Tk.GX[k]:=by unfold Cv;simp[h]
theorem bR {a b:Bool} (h:a=b):Ending.returned (.bool a)= .returned (.bool b):=by rw[h]
theorem bV {k:IntKind} {a b:Int} (h:a=b):Ending.returned (.int k a)= .returned (.int k b):=by rw[h]
def Ic:Array Value:=(Tk.GX.map λl=>Value.string ⟨l.toArray⟩).toArray
def eG (w:World):Prop:= ∃t fr,w.heap[0]? =some (.cells Ic t fr)
theorem eG.below {B:Nat} {w w':World} (h:eG w) (hb:Below B w w') (hB:0<B):eG w':=by
 obtain⟨t,fr,h⟩:=h;exact⟨t,fr,(hb.block _ hB).trans h⟩
theorem eG.lt {w:World} (h:eG w):0<w.heap.size:=by
 obtain⟨t,fr,h⟩:=h;exact(aO h)
theorem eG.same {w w':World} (h:eG w) (hb:Below w.heap.size w w'):eG w':=h.below hb h.lt
theorem eG.alloc {w:World} (h:eG w) (o:Obj):eG (w.alloc o):=h.same ((ak _ _).alloc (aB _) o)
theorem ab1 (k:Nat) (hk:k<22) (w:World):(Instr.index 177 (.agg Ic) (.int .i64 (k:Int))).run Tryz.prog w= .ok (.string (Me k)) w:=by
 rcases(show k=0∨k=1∨k=2∨k=3∨k=4∨k=5∨k=6∨k=7∨k=8∨k=9∨k=10∨k=11∨k=12∨k=13∨k=14∨k=15∨k=16∨k=17∨k=18∨k=19∨k=20∨k=21 by omega)with rfl|rfl|rfl|rfl|rfl|rfl|rfl|rfl|rfl|rfl|rfl|rfl|rfl|rfl|rfl|rfl|rfl|rfl|rfl|rfl|rfl|rfl <;> kernel_rfl
theorem J4 (k:Nat):(Me k).toList=Cv k:=by
 unfold Me;rw[Lib.toList_data]
theorem XK (k:Nat) (hk:k<22) (l:List UInt8) (h:(l==Cv k)=true):Tk.uG l=true:=by
 have hl:Tk.GX.length=22:=rfl;unfold Tk.uG;rw[List.contains_iff_mem,show l=Cv k from by simpa using h,QC _ (by omega)];exact List.getElem_mem _
theorem an3 (l:List UInt8) (h: ∀k<22,(l==Cv k)=false):Tk.uG l=false:=by
 have hl:Tk.GX.length=22:=rfl;unfold Tk.uG;rw[Bool.eq_false_iff];intro hc;rw[List.contains_iff_mem]at hc;obtain⟨k,hk,e⟩:=List.getElem_of_mem hc;have:=h k (by omega);rw[QC _ hk,e]at this;simp at this
def Pq (l:List UInt8) (k:Nat):Prop:= ∀j<k,(l==Cv j)=false
theorem Pq.step {l:List UInt8} {k:Nat} (h:Pq l k) (hk:(l==Cv k)=false):Pq l (k+1):=by
 intro j hj;by_cases e:j=k
 ·subst e;exact hk
 ·exact h j (by omega)
theorem Ac (s:ByteArray) (w:World) (h:eG w):
 Calls Tryz.prog 87 #[.string s] w λe w'=>e= .returned (.bool (Tk.uG s.data.toList))∧w=w':=by
 obtain⟨t,fr,hg⟩:=h;rw[<- Lib.toList_data];go_enter Tryz.func87,Tryz.ntmps87;go_wp2_with (refine wpList_load_row rfl 177 _ rfl 0 rfl t _ fr _ hg Tryz.underlying177 rfl (by kernel_rfl) ?_);clear hg;go_loop [6] (λi=> ∃k:Nat,k<=22∧i= .int .i64 k∧Pq s.toList k) (λi=>22 -(intOf i).toNat)
 case atStart=>exact⟨0,bT _,rfl,λj hj=>absurd hj (by omega)⟩
 case round=>
  obtain⟨k,hk,rfl,hno⟩:=hrel;by_cases hlt:k<22
  ·have hix:=ab1 k hlt;have hat:=J4 k;by_cases he:(s.toList==Cv k)=true
   ·go_wp2;go_ret;exact⟨bR (XK k hlt _ he).symm,rfl⟩
   ·have he':(s.toList==Cv k)=false:=(by simpa using he);clear he;go_wp2;go_round
    case rel=>exact⟨k+1,by omega,by go_num,hno.step he'⟩
    case measure=>simp[intOf];omega
  ·obtain rfl:k=22:=by omega
   go_wp2;go_ret;exact⟨bR (an3 _ hno).symm,rfl⟩
end Go.Proofs.YtmildapbbcbbhaaGreatDoor
end
section
namespace Go.Proofs.YtmildapbbcbbhaaGreatDoor
open Go.RowKit
theorem aO1 (c:UInt8):Tk.lM c=((Tk.AX c||Tk.mG c)||((c.toNat:Int)==95)):=rfl
theorem Qz (c:UInt8) (h:Tk.AX c=true):Tk.lM c=true:=by rw[aO1,h];rfl
theorem Dj (c:UInt8):(Tk.lM c=true∧Tk.sH (c.toNat:Int)=true)∨(Tk.lM c=true∧Tk.sH (c.toNat:Int)=false∧Tk.rG (c.toNat:Int)=true)∨
 (Tk.lM c=true∧Tk.sH (c.toNat:Int)=false∧Tk.rG (c.toNat:Int)=false∧((c.toNat:Int)==95)=true)∨
 (Tk.lM c=false∧Tk.sH (c.toNat:Int)=false∧Tk.rG (c.toNat:Int)=false∧((c.toNat:Int)==95)=false):=by
 have e:Tk.lM c=((Tk.sH (c.toNat:Int)||Tk.rG (c.toNat:Int))||((c.toNat:Int)==95)):=rfl;rw[e];cases Tk.sH (c.toNat:Int) <;> cases Tk.rG (c.toNat:Int) <;> cases ((c.toNat:Int)==95) <;> simp
end Go.Proofs.YtmildapbbcbbhaaGreatDoor
end
section
namespace Go.Proofs.YtmildapbbcbbhaaGreatDoor.Tk
theorem Bv (c:UInt8):mG c=true↔48<=c.toNat∧c.toNat<=57:=by
 unfold mG rG;simp only[aJ,decide_eq_true_eq];omega
theorem Xg (l:List UInt8): ∀n:Nat,l.foldl (λn c=>10*n+(c.toNat -48)) n=n*10 ^ l.length+val l:=by
 induction l with
 |nil=>intro n;simp[val]
 |cons c l ih=>intro n;have h0:=ih (10*0+(c.toNat -48));have h1:=ih (10*n+(c.toNat -48));unfold val;simp only[List.foldl_cons];rw[h1,h0,aA,Nat.pow_succ];simp only[Nat.mul_zero,aU,Nat.add_mul];rw[Nat.add_assoc,Nat.mul_comm 10 n,Nat.mul_assoc,Nat.mul_comm 10]
theorem wN (c:UInt8) (l:List UInt8):val (c::l)=(c.toNat -48)*10 ^ l.length+val l:=by
 have:=Xg l (10*0+(c.toNat -48));unfold val at *;simp only[List.foldl_cons];rw[this];simp
theorem ED: ∀(l:List UInt8),l.all mG=true->val l<10 ^ l.length
 | [],_=>by simp[val]
 |c::l,h=>by rw[List.all_cons,aJ,Bv]at h;have:=ED l h.2;rw[wN,aA,Nat.pow_succ];have h9:(c.toNat -48)*10 ^ l.length<=9*10 ^ l.length:=Nat.mul_le_mul_right _ (by omega);omega
theorem aT2 (c:UInt8) (l:List UInt8) (h:mG c=true) (h0:c≠48):10 ^ l.length<=val (c::l):=by
 rw[Bv]at h;have hc:c.toNat≠48:=λe=>h0 (UInt8.toNat_inj.1 e);rw[wN];have:1*10 ^ l.length<=(c.toNat -48)*10 ^ l.length:=Nat.mul_le_mul_right _ (by omega);omega
theorem Fh: ∀l:List UInt8,val (l.dropWhile (· ==48))=val l
 | []=>rfl
 |c::l=>by
  rw[List.dropWhile_cons];split
  ·rename_i h;have:c=48:=by simpa using h
   subst this;rw[Fh l,wN];simp
  ·rfl
theorem EL (p q:UInt8->Bool): ∀l:List UInt8,l.all p=true->(l.dropWhile q).all p=true
 | [],_=>rfl
 |c::l,h=>by
  rw[List.dropWhile_cons];split
  ·rw[List.all_cons,aJ]at h;exact EL p q l h.2
  ·exact h
theorem QD: ∀(a b:List UInt8),a.all mG=true->b.all mG=true->a.length=b.length->Op.bytesLess a b=decide (val a<val b)
 | [],[],_,_,_=>rfl
 |a::x,b::y,ha,hb,hl=>by
  rw[List.all_cons,aJ]at ha hb;have hl':x.length=y.length:=by simpa using hl
  have ih:=QD x y ha.2 hb.2 hl';have hx:=ED x ha.2;have hy:=ED y hb.2;have h1:=(Bv a).1 ha.1;have h2:=(Bv b).1 hb.1;unfold Op.bytesLess;rw[ih,wN,wN,hl'];rw[hl']at hx;generalize 10 ^ y.length=T at *;rcases Nat.lt_trichotomy a.toNat b.toNat with h|h|h
  ·have e1:a<b:=UInt8.lt_iff_toNat_lt.2 h;have:(a.toNat -48)*T+T<=(b.toNat -48)*T:=by
    have:=Nat.mul_le_mul_right T (show a.toNat -48+1<=b.toNat -48 by omega)
    rwa [Nat.add_mul,Nat.one_mul]at this
   have e2:(a.toNat -48)*T+val x<(b.toNat -48)*T+val y:=by omega
   simp[e1,e2]
  ·have e1:a=b:=UInt8.toNat_inj.1 h;subst e1;have e2: ¬a<a:=by rw[UInt8.lt_iff_toNat_lt];omega
   simp
  ·have e1: ¬a<b:=by rw[UInt8.lt_iff_toNat_lt];omega
   have e2:a≠b:=λe=>by rw[e]at h;omega
   have:(b.toNat -48)*T+T<=(a.toNat -48)*T:=by
    have:=Nat.mul_le_mul_right T (show b.toNat -48+1<=a.toNat -48 by omega)
    rwa [Nat.add_mul,Nat.one_mul]at this
   have e3: ¬(a.toNat -48)*T+val x<(b.toNat -48)*T+val y:=by omega
   simp[e1,e2,e3]
 | [],_::_,_,_,h=>by simp at h
 |_::_,[],_,_,h=>by simp at h
theorem val_inj: ∀(a b:List UInt8),a.all mG=true->b.all mG=true->a.length=b.length->val a=val b->a=b
 | [],[],_,_,_,_=>rfl
 |a::x,b::y,ha,hb,hl,hv=>by
  rw[List.all_cons,aJ]at ha hb;have hl':x.length=y.length:=by simpa using hl
  have hx:=ED x ha.2;have hy:=ED y hb.2;have h1:=(Bv a).1 ha.1;have h2:=(Bv b).1 hb.1;have hv':=hv;rw[wN,wN,hl']at hv;rw[hl']at hx;have hab:a.toNat=b.toNat:=by
   generalize 10 ^ y.length=T at *;rcases Nat.lt_trichotomy a.toNat b.toNat with h|h|h
   ·have:=Nat.mul_le_mul_right T (show a.toNat -48+1<=b.toNat -48 by omega);rw[Nat.add_mul,Nat.one_mul]at this;omega
   ·exact h
   ·have:=Nat.mul_le_mul_right T (show b.toNat -48+1<=a.toNat -48 by omega);rw[Nat.add_mul,Nat.one_mul]at this;omega
  obtain rfl:a=b:=UInt8.toNat_inj.1 hab;rw[val_inj x y ha.2 hb.2 hl' (by omega)]
 | [],_::_,_,_,h,_=>by simp at h
 |_::_,[],_,_,h,_=>by simp at h
def great:List UInt8:=[57,50,50,51,51,55,50,48,51,54,56,53,52,55,55,53,56,48,55]
theorem Dc:val great=9223372036854775807:=by decide
theorem Nu:great.all mG=true:=by decide
theorem Nv:great.length=19:=rfl
theorem Vx (l:List UInt8) (h:l.all mG=true) (hl:19<(l.dropWhile (· ==48)).length):yA l=false:=by
 have ht:=EL mG (· ==48) l h;unfold yA;rw[<- Fh l];have hh: ∀c r,l.dropWhile (· ==48)=c::r->c≠48:=by intro c r e;have:=List.head?_dropWhile_not (· ==48) l;rw[e]at this;simpa using this
 generalize l.dropWhile (· ==48)=t at *
 match t,hl,ht,hh with
 |c::r,hl,ht,hh=>rw[List.all_cons,aJ]at ht;have h1:=aT2 c r ht.1 (hh c r rfl);have h2:10 ^ 19<=10 ^ r.length:=Nat.pow_le_pow_right (by omega) (by simp at hl;omega);have h3:(10:Nat) ^ 19=10000000000000000000:=rfl;rw[h3]at h2;simp only[decide_eq_false_iff_not];omega
theorem RJ (l:List UInt8) (h:l.all mG=true) (hl:(l.dropWhile (· ==48)).length<19):yA l=true:=by
 have ht:=EL mG (· ==48) l h;unfold yA;rw[<- Fh l];generalize l.dropWhile (· ==48)=t at *;have h1:=ED t ht;have h2:10 ^ t.length<=10 ^ 18:=Nat.pow_le_pow_right (by omega) (by omega);have h3:(10:Nat) ^ 18=1000000000000000000:=rfl;rw[h3]at h2;simp only[decide_eq_true_eq];omega
theorem ac8 (l:List UInt8) (h:l.all mG=true) (hl:(l.dropWhile (· ==48)).length=19):
 (!(Op.bytesLess (l.dropWhile (· ==48)) great||(l.dropWhile (· ==48))==great))= !yA l:=by
 have ht:=EL mG (· ==48) l h;unfold yA;rw[<- Fh l];generalize l.dropWhile (· ==48)=t at *;rw[QD t great ht Nu (by rw[hl,Nv]),Dc];congr 1;by_cases e:val t=9223372036854775807
 ·have:t=great:=val_inj t great ht Nu (by rw[hl,Nv]) (by rw[e,Dc]);rw[this,Dc];simp
 ·have hne:(t==great)=false:=by rw[beq_eq_false_iff_ne];intro e';rw[e',Dc]at e;exact e rfl
  rw[hne,Bool.or_false,decide_eq_decide];omega
def DR:List (List UInt8):=[[124,124],[38,38],[61,61],[33,61],[60,61],[62,61]]
def Nk:List UInt8:=[60,62,43,45,42,47,37,33,61,40,41,91,93,123,125,44,59]
theorem aR9:sgs=DR++Nk.map λc=>[c]:=rfl
theorem Jr (n:Nat) (l:List UInt8): ∀gs:List (List UInt8),(∀g∈gs,g.length=n)->gs.find? (λg=>g.isPrefixOf l)=if gs.contains (l.take n)then some (l.take n)else none
 | [],_=>rfl
 |g::gs,h=>by
  have hg:g.length=n:=h g (aV ..);have ih:=Jr n l gs λx hx=>h x (aX _ hx);rw[List.find?_cons,ih,List.contains_cons];by_cases e:g.isPrefixOf l=true
  ·have e1:l.take n=g:=by obtain⟨r,rfl⟩:=List.isPrefixOf_iff_prefix.1 e;rw[<- hg];simp
   rw[e,e1];simp
  ·have e0:g.isPrefixOf l=false:=Bool.eq_false_iff.2 e;have e1:(l.take n==g)=false:=by rw[beq_eq_false_iff_ne];intro e2;exact e (List.isPrefixOf_iff_prefix.2 (e2 ▸ List.take_prefix _ _))
   rw[e0,e1];simp
theorem EA (l:List UInt8):ou l=if DR.contains (l.take 2)then l.take 2 else if(Nk.map λc=>[c]).contains (l.take 1)then l.take 1 else []:=by
 unfold ou;rw[aR9,List.find?_append,Jr 2 l DR (by decide),Jr 1 l (Nk.map λc=>[c]) (by decide)];split
 ·rfl
 ·split <;> rfl
theorem PZ (a:UInt8):(Nk.map λc=>[c]).contains [a]=Nk.contains a:=by
 simp[Nk]
theorem Eo (c:UInt8): ∀l:List UInt8,l.contains c=decide (0<=Lib.indexByte l c)
 | []=>rfl
 |b::l=>by
  have ih:=Eo c l;have hg:=Lib.indexByte_ge l c;have hc:Lib.indexByte (b::l) c=if b==c then 0 else if Lib.indexByte l c== -1 then -1 else Lib.indexByte l c+1:=rfl
  rw[List.contains_cons,ih,hc];by_cases h:b=c
  ·subst h;simp
  ·have h1:(b==c)=false:=by simpa using h
   have h2:(c==b)=false:=by simpa using Ne.symm h
   rw[h1,h2];simp only[Bool.false_or,Bool.false_eq_true,if_false,decide_eq_decide];by_cases h3:Lib.indexByte l c= -1
   ·simp[h3]
   ·rw[if_neg (by simpa using h3)];omega
end Go.Proofs.YtmildapbbcbbhaaGreatDoor.Tk
end
section
namespace Go.Proofs.YtmildapbbcbbhaaGreatDoor.Tk
theorem Yj (f line:Nat) (acc:List Tok):mO f [] line acc=(acc,0,0):=by cases f <;> rfl
theorem Rc (p:UInt8->Bool) (c:UInt8) (r:List UInt8) (h:p c=true):1<=((c::r).takeWhile p).length:=by
 rw[List.takeWhile_cons,if_pos h];simp
theorem as8 (c:UInt8) (h:AX c=true):lM c=true:=by
 have e:lM c=((AX c||mG c)||((c.toNat:Int)==95)):=rfl;rw[e,h];rfl
theorem Xf (c:UInt8) (r:List UInt8) (h:(first (c::r)).1=0):1<=(first (c::r)).2.2.length∧(first (c::r)).2.2.length<=(c::r).length∧(c::r).take (first (c::r)).2.2.length=(first (c::r)).2.2:=by
 have hh:(c::r).headD 0=c:=rfl;unfold first at h⊢;rw[hh]at h⊢;by_cases hL:AX c=true
 ·rw[if_pos hL]at h⊢;unfold tX at h⊢;by_cases h12:12<((c::r).takeWhile lM).length
  ·rw[if_pos h12]at h;cases h
  ·rw[if_neg h12];exact⟨Rc _ _ _ (as8 c hL),zW _ _,take_takeWhile _ _⟩
 ·rw[if_neg hL]at h⊢;by_cases hD:mG c=true
  ·rw[if_pos hD]at h⊢;unfold Cz at h⊢;split at h
   ·cases h
   ·rename_i h2;rw[if_neg h2];exact⟨Rc _ _ _ hD,zW _ _,take_takeWhile _ _⟩
  ·rw[if_neg hD]at h⊢;unfold Mj at h⊢;split at h
   ·cases h
   ·rename_i h2;rw[if_neg h2];have hlen:ou (c::r)≠[]:=λe=>h2 (by rw[e];rfl);refine⟨?_,?_,?_⟩
    ·cases hs:ou (c::r)with
     |nil=>exact absurd hs hlen
     |cons a b=>simp
    ·show(ou (c::r)).length<=_;rw[EA];split
     ·rw[List.length_take];omega
     ·split
      ·rw[List.length_take];omega
      ·simp
    ·show(c::r).take (ou (c::r)).length=ou (c::r);rw[EA];split
     ·rw[List.length_take,List.take_eq_take_iff];omega
     ·split
      ·rw[List.length_take,List.take_eq_take_iff];omega
      ·rfl
theorem ae1 (f:Nat) (r:List UInt8) (line:Nat) (acc:List Tok):mO (f+1) (10::r) line acc=mO f r (line+1) acc:=by
 rw[mO,if_pos rfl]
theorem RL (f:Nat) (c:UInt8) (r:List UInt8) (line:Nat) (acc:List Tok) (h:c=32∨c=9∨c=13):mO (f+1) (c::r) line acc=mO f r line acc:=by
 have h1:c≠10:=by rcases h with rfl|rfl|rfl <;> decide
 rw[mO,if_neg h1,if_pos h]
theorem Yh (f:Nat) (c:UInt8) (r:List UInt8) (line:Nat) (acc:List Tok) (h1:c≠10) (h2: ¬(c=32∨c=9∨c=13)) (h3:[47,47].isPrefixOf (c::r)=true):mO (f+1) (c::r) line acc=mO f ((c::r).dropWhile (· != 10)) line acc:=by
 rw[mO,if_neg h1,if_neg h2,if_pos h3]
theorem Yk (f:Nat) (c:UInt8) (r:List UInt8) (line:Nat) (acc:List Tok) (h1:c≠10) (h2: ¬(c=32∨c=9∨c=13)) (h3:[47,47].isPrefixOf (c::r)=false) (h4:(first (c::r)).1=0):
 mO (f+1) (c::r) line acc=mO f ((c::r).drop (first (c::r)).2.2.length) line (acc++[⟨(first (c::r)).2.1,(first (c::r)).2.2,line⟩]):=by
 rw[mO,if_neg h1,if_neg h2,if_neg (by rw[h3];decide),if_pos h4]
theorem Yi (f:Nat) (c:UInt8) (r:List UInt8) (line:Nat) (acc:List Tok) (h1:c≠10) (h2: ¬(c=32∨c=9∨c=13)) (h3:[47,47].isPrefixOf (c::r)=false) (h4:(first (c::r)).1≠0):
 mO (f+1) (c::r) line acc=([],(first (c::r)).1,line):=by
 rw[mO,if_neg h1,if_neg h2,if_neg (by rw[h3];decide),if_neg h4]
def SP (l:List UInt8) (R:List Tok×Nat×Nat) (k line:Nat) (acc:List Tok):Prop:=
 k<=l.length∧line<=k+1∧acc.length<=k∧∃f,(l.drop k).length<=f∧mO f (l.drop k) line acc=R
theorem SP.start (l:List UInt8):SP l (mO l.length l 1 []) 0 1 []:=⟨bT _,aB _,aB _,l.length,aB _,rfl⟩
section
variable {l:List UInt8} {R:List Tok×Nat×Nat} {k line:Nat} {acc:List Tok}
theorem SP.cut (h:SP l R k line acc) (hk:k<l.length): ∃f,(l.drop (k+1)).length<=f∧mO (f+1) (l[k]::l.drop (k+1)) line acc=R:=by
 obtain⟨_,_,_,f,hf,hR⟩:=h;rw[List.drop_eq_getElem_cons hk]at hf hR;cases f with
 |zero=>simp at hf;omega
 |succ f=>exact⟨f,by rw[aA]at hf;omega,hR⟩
theorem SP.nl (h:SP l R k line acc) (hk:k<l.length) (hc:l[k]=10):SP l R (k+1) (line+1) acc:=by
 obtain⟨f,hf,hR⟩:=h.cut hk;rw[hc,ae1]at hR;exact⟨hk,by have:=h.2.1;omega,by have:=h.2.2.1;omega,f,hf,hR⟩
theorem SP.blank (h:SP l R k line acc) (hk:k<l.length) (hc:l[k]=32∨l[k]=9∨l[k]=13):SP l R (k+1) line acc:=by
 obtain⟨f,hf,hR⟩:=h.cut hk;rw[RL _ _ _ _ _ hc]at hR;exact⟨hk,by have:=h.2.1;omega,by have:=h.2.2.1;omega,f,hf,hR⟩
theorem SP.FD (h:SP l R k line acc) (hk:k<l.length) (h1:l[k]≠10) (h2: ¬(l[k]=32∨l[k]=9∨l[k]=13)) (h3:[47,47].isPrefixOf (l.drop k)=true):SP l R (k+Tk.FD (l.drop k)) line acc∧1<=Tk.FD (l.drop k):=by
 obtain⟨f,hf,hR⟩:=h.cut hk;have e:=List.drop_eq_getElem_cons hk;rw[e]at h3;rw[Yh _ _ _ _ _ h1 h2 h3,<- e,<- uX,List.drop_drop]at hR;have hle:=WV (l.drop k);rw[List.length_drop]at hle;have h1':1<=Tk.FD (l.drop k):=by unfold Tk.FD;rw[e];exact Rc (· != 10) _ _ (by simpa using h1)
 refine⟨⟨by omega,by have:=h.2.1;omega,by have:=h.2.2.1;omega,f,?_,hR⟩,h1'⟩;rw[List.length_drop]at hf⊢;omega
theorem SP.tok (h:SP l R k line acc) (hk:k<l.length) (h1:l[k]≠10) (h2: ¬(l[k]=32∨l[k]=9∨l[k]=13)) (h3:[47,47].isPrefixOf (l.drop k)=false) (h4:(first (l.drop k)).1=0):
 SP l R (k+(first (l.drop k)).2.2.length) line (acc++[⟨(first (l.drop k)).2.1,(first (l.drop k)).2.2,line⟩])∧1<=(first (l.drop k)).2.2.length:=by
 obtain⟨f,hf,hR⟩:=h.cut hk;have e:=List.drop_eq_getElem_cons hk;rw[e]at h3 h4;have hl:=Xf _ _ h4;rw[Yk _ _ _ _ _ h1 h2 h3 h4,<- e,List.drop_drop]at hR;rw[<- e]at hl h4;rw[List.length_drop]at hl;refine⟨⟨by omega,by have:=h.2.1;omega,?_,f,?_,hR⟩,hl.1⟩
 ·rw[ay];have:=h.2.2.1;simp;omega
 ·rw[List.length_drop]at hf⊢;omega
theorem SP.err (h:SP l R k line acc) (hk:k<l.length) (h1:l[k]≠10) (h2: ¬(l[k]=32∨l[k]=9∨l[k]=13)) (h3:[47,47].isPrefixOf (l.drop k)=false) (h4:(first (l.drop k)).1≠0):
 R=([],(first (l.drop k)).1,line):=by
 obtain⟨f,hf,hR⟩:=h.cut hk;have e:=List.drop_eq_getElem_cons hk;rw[e]at h3 h4;rw[Yi _ _ _ _ _ h1 h2 h3 h4,<- e]at hR;exact hR.symm
theorem SP.done (h:SP l R k line acc) (hk: ¬k<l.length):R=(acc,0,0):=by
 obtain⟨_,_,_,f,hf,hR⟩:=h;rw[List.drop_of_length_le (by omega),Yj]at hR;exact hR.symm
end
theorem PY (l m:List Tok):cellsOf (l++m)=cellsOf l++cellsOf m:=by unfold cellsOf;rw[List.flatMap_append]
theorem cells_one (t:Tok):cellsOf [t]=t.cells:=by unfold cellsOf;simp
end Go.Proofs.YtmildapbbcbbhaaGreatDoor.Tk
end
section
namespace Go.Proofs.YtmildapbbcbbhaaGreatDoor
open Go.RowKit
theorem oo (c:Int) (w:World):
 Calls Tryz.prog 133 #[.int .u8 c] w λe w'=>e= .returned (.bool (Tk.sH c))∧w=w':=by
 unfold Tk.sH;go_enter Tryz.func133,Tryz.ntmps133;go_wp2
 all_goals go_ret
 all_goals first|(simp[*];done)|(simp[*];omega)
theorem nR (c:Int) (w:World):
 Calls Tryz.prog 135 #[.int .u8 c] w λe w'=>e= .returned (.bool (Tk.rG c))∧w=w':=by
 unfold Tk.rG;go_enter Tryz.func135,Tryz.ntmps135;go_wp2
 all_goals go_ret
 all_goals first|(simp[*];done)|(simp[*];omega)
theorem O5 (s p:ByteArray) (w:World):
 Calls Tryz.prog 95 #[.string s,.string p] w λe w'=>e= .returned (.bool (Lib.hasPrefix s.data.toList p.data.toList))∧w=w':=by
 rw[<- Lib.hasPrefix_of_take,<- Lib.size_eq,<- Lib.size_eq];go_enter Tryz.func95,Tryz.ntmps95;go_wp2
 ·rename_i h;go_ret;refine⟨?_,rfl⟩;show Ending.returned (Value.bool ((s.extract 0 p.size).toList==p.toList))=_;rw[Lib.extract_toList,Lib.toList_data];simp[h]
 ·rename_i h;go_ret;refine⟨?_,rfl⟩;show Ending.returned (Value.bool false)=_;simp[h]
theorem Bq (s:ByteArray) (c:Int) (w:World):
 Calls Tryz.prog 148 #[.string s,.int .u8 c] w λe w'=>e= .returned (.int .i64 (Lib.indexByte s.data.toList c.toNat.toUInt8))∧w=w':=by
 go_enter Tryz.func148,Tryz.ntmps148;go_wp2;rw[run_callFunc_extern Tryz.func155 (by kernel_rfl) (by kernel_rfl) (by kernel_rfl) (e:=Extern.BytealgIndexByte.indexByte) (by kernel_rfl),Lib.run_indexByteString];simp only[Result.andThen];rw[Oper.upon_value];go_wp2;go_ret;exact⟨rfl,rfl⟩
theorem Ab (s:ByteArray) (c:Int) (w:World):
 Calls Tryz.prog 132 #[.string s,.int .u8 c] w λe w'=>e= .returned (.int .i64 (Lib.indexByte s.data.toList c.toNat.toUInt8))∧w=w':=by
 go_enter Tryz.func132,Tryz.ntmps132;go_wp2_with (go_at_call 148;refine(Bq _ _ _).mono ?_;rintro e w' ⟨rfl,rfl⟩);go_ret;exact⟨rfl,rfl⟩
end Go.Proofs.YtmildapbbcbbhaaGreatDoor
end
section
namespace Go.Proofs.YtmildapbbcbbhaaGreatDoor
open Go.RowKit
theorem Rt (s:ByteArray) (w:World) (_hs:s.size<=4096):
 Calls Tryz.prog 96 #[.string s] w λe w'=>e= .returned (.int .i64 (Tk.FD s.data.toList))∧w=w':=by
 have hle:=Tk.WV s.data.toList;have hsz:=Lib.size_eq s;by_cases h:0<=Lib.indexByte s.data.toList 10
 ·have he:=Tk.aG0 _ h;rw[<- he];clear he hsz;go_enter Tryz.func96,Tryz.ntmps96;go_wp2_with (go_at_call 132;refine(Ab _ _ _).mono ?_;rintro e w' ⟨rfl,rfl⟩);go_ret;exact⟨rfl,rfl⟩
 ·have h':Lib.indexByte s.data.toList 10<0:=by omega
  have he:=Tk.aG1 _ h';rw[<- he,<- hsz];clear he hsz h;go_enter Tryz.func96,Tryz.ntmps96;go_wp2_with (go_at_call 132;refine(Ab _ _ _).mono ?_;rintro e w' ⟨rfl,rfl⟩);go_ret;exact⟨rfl,rfl⟩
theorem JN (s:ByteArray) (w:World):
 Calls Tryz.prog 156 #[.string s,.int .u8 48] w λe w'=>e= .returned (.string ⟨(s.data.toList.dropWhile (· ==48)).toArray⟩)∧w=w':=by
 go_enter Tryz.func156,Tryz.ntmps156;go_wp2;go_loop [0] (λv=> ∃t:ByteArray,v= .string t∧Tk.pX t s) (λv=>Lib.strSize v)
 case atStart=>exact⟨s,rfl,Tk.pX.refl s⟩
 case round=>
  obtain⟨t,rfl,ht⟩:=hrel;by_cases h0:0<t.size
  ·by_cases he:t[0]=48
   ·have hb:((t[0].toNat:Int)==48)=true:=(by rw[he];rfl);have hst:=ht.step h0 he;have hz:(t.extract 1 t.size).size<t.size:=(by simp[ByteArray.size_extract];omega);have H:=ah he;clear he;go_wp2;go_round
    case rel=>exact⟨_,rfl,hst⟩
    case measure=>exact hz
   ·have hb:((t[0].toNat:Int)==48)=false:=(by rw[beq_eq_false_iff_ne];intro h;exact he (UInt8.toNat_inj.1 (by rw[show t[0].toNat=48 from by omega];rfl)));have hd:=ht.done (λ_=>he);have H:=ah hd;clear hd he;go_wp2;go_ret;exact⟨congrArg (λx=>Ending.returned (.string x)) H.o,rfl⟩
  ·have hd:=ht.done (λh=>absurd h h0);have H:=ah hd;clear hd;go_wp2;go_ret;exact⟨congrArg (λx=>Ending.returned (.string x)) H.o,rfl⟩
theorem O8 (s:ByteArray) (w:World) (h:s.toList.isEmpty=false):
 Calls Tryz.prog 149 #[.string s,.string ⟨#[48]⟩] w λe w'=>e= .returned (.string ⟨(s.data.toList.dropWhile (· ==48)).toArray⟩)∧w=w':=by
 have h2:s.toList≠[]:=by intro e;rw[e]at h;cases h
 go_enter Tryz.func149,Tryz.ntmps149;go_wp2_with (go_at_call 156;refine(JN _ _).mono ?_;rintro e w' ⟨rfl,rfl⟩);go_ret;exact⟨rfl,rfl⟩
def yI (r:Nat×Nat×List UInt8):Value:= .tuple #[.agg #[.int .i64 r.2.1,.string ⟨r.2.2.toArray⟩,.int .i64 0],.int .i64 r.1]
theorem as0 (s:ByteArray) (h:0<s.size):s.data.toList.headD 0=s[0]:=by
 rw[Tk.uw s h];rfl
theorem aR7 (s:ByteArray) (h:0<s.size):((Tk.ou s.data.toList).length:Int)=if 2<=(s.size:Int)∧Tk.DR.contains (s.extract 0 2).toList=true then 2 else if(0:Int)<=Lib.indexByte Tk.Nk s[0]then 1 else 0:=by
 have hl:=Lib.size_eq s;rw[Tk.EA,Lib.extract_toList];simp only[List.drop_zero,Nat.sub_zero];have h1:s.data.toList.take 1=[s[0]]:=by rw[Tk.uw s h];rfl
 rw[h1,Tk.PZ,Tk.Eo];by_cases h2:Tk.DR.contains (s.data.toList.take 2)=true
 ·have h3:(s.data.toList.take 2).length=2:=by
   have: ∀x,Tk.DR.contains x=true->x.length=2:=by intro x hx;rw[List.contains_iff_mem]at hx;have: ∀y∈Tk.DR,y.length=2:=(by decide);exact this x hx
   exact this _ h2
  have h4:2<=(s.size:Int):=by rw[List.length_take]at h3;omega
  rw[if_pos h2,if_pos ⟨h4,h2⟩,h3];rfl
 ·rw[if_neg h2];have h6: ¬(2<=(s.size:Int)∧Tk.DR.contains (s.data.toList.take 2)=true):=λh=>h2 h.2;rw[if_neg h6];by_cases h5:(0:Int)<=Lib.indexByte Tk.Nk s[0]
  ·rw[if_pos h5,if_pos (by simpa using h5)];rfl
  ·rw[if_neg h5,if_neg (by simpa using h5)];rfl
theorem av0 (s:ByteArray) (h:0<s.size):((Tk.ou s.data.toList).length:Int)=if decide (2<=(s.size:Int))&&(((s.extract 0 2).toList== [124,124])||(((s.extract 0 2).toList== [38,38])||(((s.extract 0 2).toList== [61,61])||(((s.extract 0 2).toList== [33,61])||(((s.extract 0 2).toList== [60,61])||((s.extract 0 2).toList== [62,61]))))))then 2 else if(0:Int)<=Lib.indexByte [60,62,43,45,42,47,37,33,61,40,41,91,93,123,125,44,59] s[0]then 1 else 0:=by
 rw[aR7 s h];have e:Tk.DR.contains (s.extract 0 2).toList=(((s.extract 0 2).toList== [124,124])||(((s.extract 0 2).toList== [38,38])||(((s.extract 0 2).toList== [61,61])||(((s.extract 0 2).toList== [33,61])||(((s.extract 0 2).toList== [60,61])||((s.extract 0 2).toList== [62,61])))))):=by unfold Tk.DR;simp only[List.contains_cons,List.contains_nil,Bool.or_false]
 rw[<- e];simp only[aJ,decide_eq_true_eq];rfl
theorem QW (s:ByteArray) (w:World) (h:0<s.size):
 Calls Tryz.prog 137 #[.string s] w λe w'=>e= .returned (.int .i64 (Tk.ou s.data.toList).length)∧w=w':=by
 have H:=ah (av0 s h);go_enter Tryz.func137,Tryz.ntmps137;go_wp2_with (go_at_call 132;refine(Ab _ _ _).mono ?_;rintro e w' ⟨rfl,rfl⟩)
 all_goals go_ret
 all_goals (refine⟨bV ?_,rfl⟩;rw[H.o];clear H;go_light;first|(exfalso;simp_all;done)|(simp only[*,Bool.or_true,Bool.true_or,Bool.or_false,Bool.and_true,Bool.and_false,decide_true,if_true,if_false,Bool.false_eq_true];done)|(rw[if_neg (by simp only[*,Bool.or_false,Bool.and_false,Bool.false_eq_true,not_false_eq_true])];first|(rw[if_pos (by assumption)];done)|(rw[if_neg (by omega)];done))|(rw[if_neg (by simp;omega)];first|(rw[if_pos (by assumption)];done)|(rw[if_neg (by omega)];done)))
theorem Q7 (s:ByteArray) (j:Nat) (h:j<s.data.toList.length):s.data.toList[j]=s[j]'(by rw[Lib.size_eq];exact h):=rfl
def Fz (p:UInt8->Bool) (s:ByteArray) (k:Nat):Prop:= ∀j (h:j<s.size),j<k->p s[j]=true
theorem Fz.step {p:UInt8->Bool} {s:ByteArray} {k:Nat} (h:Fz p s k) (hk:k<s.size) (hp:p s[k]=true):Fz p s (k+1):=by
 intro j hj hjk;by_cases e:j=k
 ·subst e;exact hp
 ·exact h j hj (by omega)
theorem Fz.one {p:UInt8->Bool} {s:ByteArray} (h:0<s.size) (hp:p s[0]=true):Fz p s 1:=by
 intro j hj h1;obtain rfl:j=0:=by omega
 exact hp
theorem Fz.len {p:UInt8->Bool} {s:ByteArray} {k:Nat} (h:Fz p s k) (hk:k<=s.size) (hp: ∀h:k<s.size,p s[k]=false):(s.data.toList.takeWhile p).length=k:=by
 refine Tk.FL p _ k (by rw[<- Lib.size_eq];exact hk) (λj hj hjk=> ?_) (λhj=> ?_)
 ·rw[Q7];exact h j _ hjk
 ·rw[Q7];exact hp _
theorem ET {p:UInt8->Bool} {s:ByteArray} {k:Nat} (h:(s.data.toList.takeWhile p).length=k):s.extract 0 k=⟨(s.data.toList.takeWhile p).toArray⟩:=by
 rw[Lib.extract_upto,<- h,Tk.take_takeWhile]
theorem KA {p:UInt8->Bool} {s:ByteArray} {k:Nat} (h:(s.data.toList.takeWhile p).length=k):(s.extract 0 k).data.toList=s.data.toList.takeWhile p:=by
 rw[ET h]
theorem VR (l:List UInt8) (k:Nat) (h:(l.takeWhile Tk.lM).length=k) (h12:12<k):Tk.tX l=(2,0,[]):=by
 unfold Tk.tX;rw[if_pos (by omega)]
theorem ag4 (l:List UInt8) (k:Nat) (h:(l.takeWhile Tk.lM).length=k) (h12: ¬12<k) (hk:Tk.uG (l.takeWhile Tk.lM)=true):Tk.tX l=(0,3,l.takeWhile Tk.lM):=by
 unfold Tk.tX;rw[if_neg (by omega),if_pos hk]
theorem ag5 (l:List UInt8) (k:Nat) (h:(l.takeWhile Tk.lM).length=k) (h12: ¬12<k) (hk:Tk.uG (l.takeWhile Tk.lM)=false):Tk.tX l=(0,1,l.takeWhile Tk.lM):=by
 unfold Tk.tX;rw[if_neg (by omega),if_neg (by rw[hk];decide)]
theorem ag6 (s:ByteArray) (w:World) (hs:s.size<=4096) (h0:0<s.size) (hL:Tk.AX s[0]=true) (eH:eG w):
 Calls Tryz.prog 134 #[.string s] w λe w'=>e= .returned (yI (Tk.tX s.data.toList))∧Below w.heap.size w w':=by
 have hI0:=Qz _ hL;have HL:=ah hL;clear hL;go_enter Tryz.func134,Tryz.ntmps134;go_wp2;go_loop [4] (λi=> ∃k:Nat,1<=k∧k<=s.size∧i= .int .i64 k∧Fz Tk.lM s k) (λi=>s.size -(intOf i).toNat)
 case atStart=>exact⟨1,aB _,h0,rfl,Fz.one h0 hI0⟩
 case round=>
  obtain⟨k,hk1,hk,rfl,hin⟩:=hrel;clear hI0;by_cases hc: ∃h:k<s.size,Tk.lM s[k]=true
  ·obtain⟨hlt,hi⟩:=hc;have hst:=hin.step hlt hi;rcases Dj s[k]with⟨_,h1⟩|⟨_,h1,h2⟩|⟨_,h1,h2,h3⟩|⟨h4,_⟩
   case inr.inr.inr=>rw[hi]at h4;cases h4
   all_goals
    clear hi;go_wp2_with (first|(go_at_call 133;refine(oo _ _).mono ?_;rintro e w' ⟨rfl,rfl⟩)|(go_at_call 135;refine(nR _ _).mono ?_;rintro e w' ⟨rfl,rfl⟩));go_round
    case rel=>exact⟨k+1,by omega,by omega,by go_num,hst⟩
    case measure=>simp[intOf];omega
  ·have hlen:(s.data.toList.takeWhile Tk.lM).length=k:=hin.len hk (λh=>by rw[Bool.eq_false_iff];exact λe=>hc ⟨h,e⟩);have ed:s.data.toList.take k=s.data.toList.takeWhile Tk.lM:=by rw[<- hlen,Tk.take_takeWhile]
   have EX:=ah (ET hlen);have HR:aj ((12<k∧Tk.tX s.data.toList=(2,0,[]))∨(¬12<k∧Tk.uG (s.data.toList.take k)=true∧Tk.tX s.data.toList=(0,3,s.data.toList.takeWhile Tk.lM))∨
    (¬12<k∧Tk.uG (s.data.toList.take k)=false∧Tk.tX s.data.toList=(0,1,s.data.toList.takeWhile Tk.lM))):=by
    apply ah;rw[ed];by_cases h12:12<k
    ·exact .inl ⟨h12,VR _ k hlen h12⟩
    ·cases hK:Tk.uG (s.data.toList.takeWhile Tk.lM)
     ·exact .inr (.inr ⟨h12,rfl,ag5 _ k hlen h12 hK⟩)
     ·exact .inr (.inl ⟨h12,rfl,ag4 _ k hlen h12 hK⟩)
   have HC:aj (k<s.size->∃h:k<s.size,Tk.lM s[k]=false):=ah λh=>⟨h,by rw[Bool.eq_false_iff];exact λe=>hc ⟨h,e⟩⟩;clear hc ed hlen;have go: ∀Z:Prop,((hlt:k<s.size)->Tk.sH (s[k].toNat:Int)=false->Tk.rG (s[k].toNat:Int)=false->((s[k].toNat:Int)==95)=false->Z)->(¬k<s.size->Z)->Z:=by
    intro Z h1 h2;by_cases hlt:k<s.size
    ·obtain⟨_,hi⟩:=HC.o hlt;rcases Dj s[k]with⟨h,_⟩|⟨h,_⟩|⟨h,_⟩|⟨_,ha,hb,hcc⟩
     ·rw[hi]at h;cases h
     ·rw[hi]at h;cases h
     ·rw[hi]at h;cases h
     ·exact h1 hlt ha hb hcc
    ·exact h2 hlt
   rcases HR.o with⟨h12,hR⟩|⟨h12,hK,hR⟩|⟨h12,hK,hR⟩
   all_goals have HRR:=ah hR;clear hR HR;refine go _ (λhlt t1 t2 t3=> ?_) (λhlt=> ?_)
   all_goals clear go;go_wp2_with (first|(go_at_call 133;refine(oo _ _).mono ?_;rintro e w' ⟨rfl,rfl⟩)|(go_at_call 135;refine(nR _ _).mono ?_;rintro e w' ⟨rfl,rfl⟩)|(go_at_call 87;refine(Ac _ _ (eH.alloc _)).mono ?_;rintro e w' ⟨rfl,rfl⟩))
   ·exact bodyPost_ret (v:= .tuple #[.agg #[.int .i64 0,.string ⟨#[]⟩,.int .i64 0],.int .i64 2]) (by simp[results,Tryz.results134,go_sem]) rfl ⟨by rw[HRR.o];rfl,(ak _ _).alloc (aB _) _⟩
   ·exact bodyPost_ret (v:= .tuple #[.agg #[.int .i64 0,.string ⟨#[]⟩,.int .i64 0],.int .i64 2]) (by simp[results,Tryz.results134,go_sem]) rfl ⟨by rw[HRR.o];rfl,(ak _ _).alloc (aB _) _⟩
   ·exact bodyPost_ret (v:= .tuple #[.agg #[.int .i64 3,.string (s.extract 0 k),.int .i64 0],.int .i64 0]) (by simp[results,Tryz.results134,go_sem]) rfl ⟨by rw[HRR.o,EX.o];rfl,(ak _ _).alloc (aB _) _⟩
   ·exact bodyPost_ret (v:= .tuple #[.agg #[.int .i64 3,.string (s.extract 0 k),.int .i64 0],.int .i64 0]) (by simp[results,Tryz.results134,go_sem]) rfl ⟨by rw[HRR.o,EX.o];rfl,(ak _ _).alloc (aB _) _⟩
   ·exact bodyPost_ret (v:= .tuple #[.agg #[.int .i64 1,.string (s.extract 0 k),.int .i64 0],.int .i64 0]) (by simp[results,Tryz.results134,go_sem]) rfl ⟨by rw[HRR.o,EX.o];rfl,(ak _ _).alloc (aB _) _⟩
   ·exact bodyPost_ret (v:= .tuple #[.agg #[.int .i64 1,.string (s.extract 0 k),.int .i64 0],.int .i64 0]) (by simp[results,Tryz.results134,go_sem]) rfl ⟨by rw[HRR.o,EX.o];rfl,(ak _ _).alloc (aB _) _⟩
end Go.Proofs.YtmildapbbcbbhaaGreatDoor
end
section
namespace Go.Proofs.YtmildapbbcbbhaaGreatDoor
open Go.RowKit
def Fj (s:ByteArray):ByteArray:=⟨(s.data.toList.dropWhile (· ==48)).toArray⟩
theorem RQ (s:ByteArray):(Fj s).toList=s.data.toList.dropWhile (· ==48):=by unfold Fj;rw[Lib.toList_data]
theorem YR (s:ByteArray):(Fj s).size=(s.data.toList.dropWhile (· ==48)).length:=by unfold Fj;exact Lib.size_mk _
theorem UK (s:ByteArray) (w:World) (h:s.toList.isEmpty=false):
 Calls Tryz.prog 149 #[.string s,.string ⟨#[48]⟩] w λe w'=>e= .returned (.string (Fj s))∧w=w':=O8 s w h
def Pv (z:ByteArray) (R:Nat×Nat×List UInt8) (k:Nat) (l:List UInt8):Prop:=
 (19<z.size∧R=(3,0,[]))∨(z.size<19∧R=(0,2,l))∨
 (z.size=19∧Op.bytesLess z.toList [57,50,50,51,51,55,50,48,51,54,56,53,52,55,55,53,56,48,55]=true∧R=(0,2,l))∨
 (z.size=19∧Op.bytesLess z.toList [57,50,50,51,51,55,50,48,51,54,56,53,52,55,55,53,56,48,55]=false∧(z.toList== [57,50,50,51,51,55,50,48,51,54,56,53,52,55,55,53,56,48,55])=true∧R=(0,2,l))∨
 (z.size=19∧Op.bytesLess z.toList [57,50,50,51,51,55,50,48,51,54,56,53,52,55,55,53,56,48,55]=false∧(z.toList== [57,50,50,51,51,55,50,48,51,54,56,53,52,55,55,53,56,48,55])=false∧R=(3,0,[]))∧0<=k
theorem Km (p:UInt8->Bool): ∀l:List UInt8,(l.takeWhile p).all p=true
 | []=>rfl
 |c::l=>by
  rw[List.takeWhile_cons];split
  ·rename_i h;rw[List.all_cons,h,Km p l];rfl
  ·rfl
theorem ac9 (l:List UInt8) (h:(l.dropWhile Tk.mG).head?.any Tk.lM=true):Tk.Cz l=(3,0,[]):=by
 unfold Tk.Cz;rw[h];rfl
theorem aP8 (s:ByteArray) (k:Nat) (hlen:(s.data.toList.takeWhile Tk.mG).length=k) (h:(s.data.toList.dropWhile Tk.mG).head?.any Tk.lM=false):
 Pv (Fj (s.extract 0 k)) (Tk.Cz s.data.toList) k (s.data.toList.takeWhile Tk.mG):=by
 have ha:=Km Tk.mG s.data.toList;unfold Pv Tk.Cz;rw[RQ,YR,KA hlen,h,Bool.false_or];generalize s.data.toList.takeWhile Tk.mG=d at *;rcases Nat.lt_trichotomy 19 (d.dropWhile (· ==48)).length with h1|h1|h1
 ·left;refine⟨h1,?_⟩;rw[Tk.Vx d ha h1];rfl
 ·right;right;have hq:=Tk.ac8 d ha h1.symm;unfold Tk.great at hq;generalize Op.bytesLess (d.dropWhile (· ==48)) [57,50,50,51,51,55,50,48,51,54,56,53,52,55,55,53,56,48,55]=a at *;generalize (d.dropWhile (· ==48)== [57,50,50,51,51,55,50,48,51,54,56,53,52,55,55,53,56,48,55])=b at *;rw[<- hq];cases a <;> cases b <;> simp[h1.symm]
 ·right;left;refine⟨h1,?_⟩;rw[Tk.RJ d ha h1];rfl
theorem Tx {p q:UInt8->Bool} {s:ByteArray} {k:Nat} (h:(s.data.toList.takeWhile p).length=k) (hlt:k<s.size):(s.data.toList.dropWhile p).head?.any q=q s[k]:=by
 have e:s.data.toList.dropWhile p=s.data.toList.drop k:=by rw[<- h,Tk.uX]
 have hl:k<s.data.toList.length:=by rw[<- Lib.size_eq];exact hlt
 rw[e,List.drop_eq_getElem_cons hl];rfl
theorem Qk {p q:UInt8->Bool} {s:ByteArray} {k:Nat} (h:(s.data.toList.takeWhile p).length=k) (hlt: ¬k<s.size):(s.data.toList.dropWhile p).head?.any q=false:=by
 have e:s.data.toList.dropWhile p=s.data.toList.drop k:=by rw[<- h,Tk.uX]
 rw[e,List.drop_of_length_le (by rw[<- Lib.size_eq];omega)];rfl
theorem Vy (s:ByteArray) (w:World) (hs:s.size<=4096) (h0:0<s.size) (hD:Tk.mG s[0]=true):
 Calls Tryz.prog 136 #[.string s] w λe w'=>e= .returned (yI (Tk.Cz s.data.toList))∧Below w.heap.size w w':=by
 have hin1:Fz Tk.mG s 1:=Fz.one h0 hD;clear hD;go_enter Tryz.func136,Tryz.ntmps136;go_wp2;go_loop [4] (λi=> ∃k:Nat,1<=k∧k<=s.size∧i= .int .i64 k∧Fz Tk.mG s k) (λi=>s.size -(intOf i).toNat)
 case atStart=>exact⟨1,aB _,h0,rfl,hin1⟩
 case round=>
  obtain⟨k,hk1,hk,rfl,hin⟩:=hrel;clear hin1;by_cases hc: ∃h:k<s.size,Tk.mG s[k]=true
  ·obtain⟨hlt,hi⟩:=hc;have hst:=hin.step hlt hi;have h1:Tk.rG (s[k].toNat:Int)=true:=hi;clear hi;go_wp2_with (go_at_call 135;refine(nR _ _).mono ?_;rintro e w' ⟨rfl,rfl⟩);go_round
   case rel=>exact⟨k+1,by omega,by omega,by go_num,hst⟩
   case measure=>simp[intOf];omega
  ·have hlen:(s.data.toList.takeWhile Tk.mG).length=k:=hin.len hk (λh=>by rw[Bool.eq_false_iff];exact λe=>hc ⟨h,e⟩);have EX:=ah (ET hlen);have hne:(s.extract 0 k).toList.isEmpty=false:=by
    rw[Lib.extract_toList];have:0<s.data.toList.length:=(by rw[<- Lib.size_eq];exact h0);cases hd:s.data.toList with
    |nil=>rw[hd]at this;simp at this
    |cons a r=>simp;omega
   by_cases hA: ∃h:k<s.size,Tk.lM s[k]=true
   ·obtain⟨hlt,hi⟩:=hA;have h2:Tk.rG (s[k].toNat:Int)=false:=(by show Tk.mG s[k]=false;rw[Bool.eq_false_iff];exact λe=>hc ⟨hlt,e⟩);have HR:aj (Tk.Cz s.data.toList=(3,0,[])):=ah (ac9 _ (by rw[Tx hlen hlt];exact hi));clear hc hlen;rcases Dj s[k]with⟨_,h1⟩|⟨_,_,h3⟩|⟨_,h1,_,h3⟩|⟨h4,_⟩
    case inr.inr.inr=>rw[hi]at h4;cases h4
    case inr.inl=>rw[h2]at h3;cases h3
    all_goals clear hi;go_wp2_with (first|(go_at_call 133;refine(oo _ _).mono ?_;rintro e w' ⟨rfl,rfl⟩)|(go_at_call 135;refine(nR _ _).mono ?_;rintro e w' ⟨rfl,rfl⟩));exact bodyPost_ret (v:= .tuple #[.agg #[.int .i64 0,.string ⟨#[]⟩,.int .i64 0],.int .i64 3]) (by simp[results,Tryz.results136,go_sem]) rfl ⟨by rw[HR.o];rfl,(ak _ _).alloc (aB _) _⟩
   ·have HN:aj (Pv (Fj (s.extract 0 k)) (Tk.Cz s.data.toList) k (s.data.toList.takeWhile Tk.mG)):=by
     refine ah (aP8 s k hlen ?_);by_cases hlt:k<s.size
     ·rw[Tx hlen hlt,Bool.eq_false_iff];exact λe=>hA ⟨hlt,e⟩
     ·exact Qk hlen hlt
    have go: ∀Z:Prop,((hlt:k<s.size)->Tk.sH (s[k].toNat:Int)=false->Tk.rG (s[k].toNat:Int)=false->((s[k].toNat:Int)==95)=false->Z)->(¬k<s.size->Z)->Z:=by
     intro Z h1 h2;by_cases hlt:k<s.size
     ·rcases Dj s[k]with⟨h,_⟩|⟨h,_⟩|⟨h,_⟩|⟨_,ha,hb,hcc⟩
      ·exact absurd ⟨hlt,h⟩ hA
      ·exact absurd ⟨hlt,h⟩ hA
      ·exact absurd ⟨hlt,h⟩ hA
      ·exact h1 hlt ha hb hcc
     ·exact h2 hlt
    clear hc hA hlen;rcases HN.o with⟨z1,hR⟩|⟨z1,hR⟩|⟨z1,z2,hR⟩|⟨z1,z2,z3,hR⟩|⟨⟨z1,z2,z3,hR⟩,_⟩
    all_goals have HRR:=ah hR;have zb:(((Fj (s.extract 0 k)).size:Int)==19)=decide ((Fj (s.extract 0 k)).size=19):=(by rw[Bool.eq_iff_iff];simp;omega);clear hR HN;refine go _ (λhlt t1 t2 t3=> ?_) (λhlt=> ?_)
    all_goals clear go;go_wp2_with (first|(go_at_call 133;refine(oo _ _).mono ?_;rintro e w' ⟨rfl,rfl⟩)|(go_at_call 135;refine(nR _ _).mono ?_;rintro e w' ⟨rfl,rfl⟩)|(go_at_call 149;refine(UK _ _ hne).mono ?_;rintro e w' ⟨rfl,rfl⟩))
    all_goals first
     |exact bodyPost_ret (v:= .tuple #[.agg #[.int .i64 0,.string ⟨#[]⟩,.int .i64 0],.int .i64 3]) (by simp[results,Tryz.results136,go_sem]) rfl ⟨by rw[HRR.o];rfl,(ak _ _).alloc (aB _) _⟩
     |exact bodyPost_ret (v:= .tuple #[.agg #[.int .i64 2,.string (s.extract 0 k),.int .i64 0],.int .i64 0]) (by simp[results,Tryz.results136,go_sem]) rfl ⟨by rw[HRR.o,EX.o];rfl,(ak _ _).alloc (aB _) _⟩
end Go.Proofs.YtmildapbbcbbhaaGreatDoor
end
section
namespace Go.Proofs.YtmildapbbcbbhaaGreatDoor
open Go.RowKit
theorem ak7 {W w1:World} (hb:Below W.heap.size W w1):(∀b o,b<W.heap.size->w1.cell? ⟨b,o,none⟩=W.cell? ⟨b,o,none⟩)∧(∀b o,b<W.heap.size->w1.frozen? ⟨b,o,none⟩=W.frozen? ⟨b,o,none⟩):=
 ⟨λb o h=>hb.cell (p:=⟨b,o,none⟩) h,λb o h=>hb.frozen (p:=⟨b,o,none⟩) h⟩
theorem aW7 (l:List UInt8):(Tk.ou l).length<=l.length:=by
 rw[Tk.EA];split
 ·rw[List.length_take];omega
 ·split
  ·rw[List.length_take];omega
  ·simp
theorem av1 (l:List UInt8):l.take (Tk.ou l).length=Tk.ou l:=by
 rw[Tk.EA];split
 ·rw[List.length_take,List.take_eq_take_iff];omega
 ·split
  ·rw[List.length_take,List.take_eq_take_iff];omega
  ·rfl
theorem Ns (s:ByteArray) (w:World) (hs:s.size<=4096) (h0:0<s.size) (eH:eG w):
 Calls Tryz.prog 97 #[.string s] w λe w'=>e= .returned (yI (Tk.first s.data.toList))∧Below w.heap.size w w':=by
 have hhd:=as0 s h0;cases hL:Tk.AX s[0]
 ·have h1:Tk.sH (s[0].toNat:Int)=false:=hL;cases hD:Tk.mG s[0]
  ·have h2:Tk.rG (s[0].toNat:Int)=false:=hD;have HR:aj (Tk.first s.data.toList=Tk.Mj s.data.toList):=by apply ah;unfold Tk.first;rw[hhd,hL,hD];rfl
   clear hhd hL hD;have HE:aj (s.extract 0 (Tk.ou s.data.toList).length=⟨(Tk.ou s.data.toList).toArray⟩):=by apply ah;rw[Lib.extract_upto,av1]
   have hle:(Tk.ou s.data.toList).length<=s.size:=by rw[Lib.size_eq];exact aW7 _
   have HS:aj (Tk.Mj s.data.toList=if(Tk.ou s.data.toList).isEmpty then(3,0,[])else(0,4,Tk.ou s.data.toList)):=ah rfl;by_cases hn:(Tk.ou s.data.toList).length=0
   ·have hn0:Tk.ou s.data.toList=[]:=List.eq_nil_of_length_eq_zero hn;have HS2:aj (Tk.Mj s.data.toList=(3,0,[])):=(by apply ah;rw[HS.o,hn0];rfl);have hb0:(((Tk.ou s.data.toList).length:Int)==0)=true:=(by rw[hn];rfl);clear HS HE hn hn0;go_enter Tryz.func97,Tryz.ntmps97;go_wp2_with (first|(go_at_call 133;refine(oo _ _).mono ?_;rintro e w' ⟨rfl,rfl⟩)|(go_at_call 135;refine(nR _ _).mono ?_;rintro e w' ⟨rfl,rfl⟩)|(go_at_call 137;refine(QW _ _ h0).mono ?_;rintro e w' ⟨rfl,rfl⟩));exact bodyPost_ret (v:= .tuple #[.agg #[.int .i64 0,.string ⟨#[]⟩,.int .i64 0],.int .i64 3]) (by simp[results,Tryz.results97,go_sem]) rfl ⟨by rw[HR.o,HS2.o];rfl,(ak _ _).alloc (aB _) _⟩
   ·have HS2:aj (Tk.Mj s.data.toList=(0,4,Tk.ou s.data.toList)):=(by apply ah;rw[HS.o,if_neg];intro h;exact hn (by rw[List.isEmpty_iff]at h;rw[h];rfl));have hb0:(((Tk.ou s.data.toList).length:Int)==0)=false:=(by rw[beq_eq_false_iff_ne];omega);clear HS;go_enter Tryz.func97,Tryz.ntmps97;go_wp2_with (first|(go_at_call 133;refine(oo _ _).mono ?_;rintro e w' ⟨rfl,rfl⟩)|(go_at_call 135;refine(nR _ _).mono ?_;rintro e w' ⟨rfl,rfl⟩)|(go_at_call 137;refine(QW _ _ h0).mono ?_;rintro e w' ⟨rfl,rfl⟩));exact bodyPost_ret (v:= .tuple #[.agg #[.int .i64 4,.string (s.extract 0 (Tk.ou s.data.toList).length),.int .i64 0],.int .i64 0]) (by simp[results,Tryz.results97,go_sem]) rfl ⟨by rw[HR.o,HS2.o,HE.o];rfl,(ak _ _).alloc (aB _) _⟩
  ·have h2:Tk.rG (s[0].toNat:Int)=true:=hD;have HR:aj (Tk.first s.data.toList=Tk.Cz s.data.toList):=by apply ah;unfold Tk.first;rw[hhd,hL,hD];rfl
   clear hhd;generalize hr:Tk.Cz s.data.toList=r at *;have Hr:=ah hr;clear hr;go_enter Tryz.func97,Tryz.ntmps97;go_wp2_with (first|(go_at_call 133;refine(oo _ _).mono ?_;rintro e w' ⟨rfl,rfl⟩)|(go_at_call 135;refine(nR _ _).mono ?_;rintro e w' ⟨rfl,rfl⟩));refine(Vy s _ hs h0 hD).mono ?_;rintro e w1 ⟨rfl,hb⟩;rw[Hr.o];obtain⟨hc,hf⟩:=ak7 hb;have hz:w.heap.size<w1.heap.size:=by have:=hb.size;simp at this;omega
   unfold yI;go_wp2;refine bodyPost_ret (v:=yI r) (by simp[results,Tryz.results97,go_sem,yI,hc]) rfl ⟨by rw[HR.o],?_⟩;exact(((((ak _ _).alloc (aB _) _).trans (hb.mono (by simp))).setCell (by simp) _).setCell (by simp) _).setCell (by simp) _
 ·have HR:aj (Tk.first s.data.toList=Tk.tX s.data.toList):=by apply ah;unfold Tk.first;rw[hhd,if_pos hL]
  have h1:Tk.sH (s[0].toNat:Int)=true:=hL;clear hhd;generalize hr:Tk.tX s.data.toList=r at *;have Hr:=ah hr;clear hr;go_enter Tryz.func97,Tryz.ntmps97;go_wp2_with (first|(go_at_call 133;refine(oo _ _).mono ?_;rintro e w' ⟨rfl,rfl⟩)|(go_at_call 135;refine(nR _ _).mono ?_;rintro e w' ⟨rfl,rfl⟩));refine(ag6 s _ hs h0 hL (eH.alloc _)).mono ?_;rintro e w1 ⟨rfl,hb⟩;rw[Hr.o];obtain⟨hc,hf⟩:=ak7 hb;have hz:w.heap.size<w1.heap.size:=by have:=hb.size;simp at this;omega
  unfold yI;go_wp2;refine bodyPost_ret (v:=yI r) (by simp[results,Tryz.results97,go_sem,yI,hc]) rfl ⟨by rw[HR.o],?_⟩;exact(((((ak _ _).alloc (aB _) _).trans (hb.mono (by simp))).setCell (by simp) _).setCell (by simp) _).setCell (by simp) _
end Go.Proofs.YtmildapbbcbbhaaGreatDoor
end
section
namespace Go.Proofs.YtmildapbbcbbhaaGreatDoor
open Go.RowKit
theorem Tryz.infoTok:(Tryz.prog.info? 156).map (λi=>(i.zero,i.size,i.bytes))=some (some (.agg #[.int .i64 0,.string ⟨#[]⟩,.int .i64 0]),3,32):=by kernel_rfl
def PI (w:World) (r:List Tk.Tok×Nat×Nat) (e:Ending) (w':World):Prop:=
 ∃v:Value,e= .returned (.tuple #[v,.int .i64 r.2.1,.int .i64 r.2.2])∧w'.ownsRow w.heap.size 156 3 v r.1.length (Tk.cellsOf r.1)∧Below w.heap.size w w'
theorem own_below {w w':World} {base:Nat} {e:TypeId} {size:Nat} {v:Value} {n:Nat} {xs:List Value} (h:w.ownsRow base e size v n xs) (hb:Below w.heap.size w w'):w'.ownsRow base e size v n xs:=
 h.kept (row:=none) ⟨hb.os,hb.tape,hb.output,hb.size,λi hi _=>hb.block i hi⟩ (by cases hv:v.ownBlock <;> simp)
theorem ag1 {w1 w2:World} {base:Nat} {e:TypeId} {size:Nat} {u:Value} {n:Nat} {xs:List Value} (h:w1.ownsRow base e size u n xs) (cs:Array Value) (t:TypeId) (o:Obj)
 (hg:((w1.alloc (.cells cs t)).alloc o).grownBy w2 u.ownBlock) (j:Nat):w2.cell? ⟨w1.heap.size,j,none⟩=cs[j]?:=by
 have e1:w2.heap[w1.heap.size]? =((w1.alloc (.cells cs t)).alloc o).heap[w1.heap.size]?:=hg.block _ (by simp;omega) (λe=>by have:=(h.lt _ e.symm).2;omega);have e2:((w1.alloc (.cells cs t)).alloc o).heap[w1.heap.size]? =some (.cells cs t (0,0)):=by rw[Below.heap_alloc _ _ _ (by simp)];exact heap_alloc_new w1 _
 exact cell_of_row w2 w1.heap.size j cs t (0,0) (e1.trans e2)
theorem YD {B:Nat} {w w1 w2:World} {e:TypeId} {size:Nat} {u:Value} {n:Nat} {xs:List Value} (h:w1.ownsRow B e size u n xs) (hb:Below B w w1) (hB:B<=w1.heap.size) (o1 o2:Obj)
 (hg:((w1.alloc o1).alloc o2).grownBy w2 u.ownBlock):Below B w w2:=
 ((hb.alloc hB o1).alloc (by simp;omega) o2).grown hg (by simp;omega) (λk hk=>(h.lt _ hk).1)
def aQ9 (s:ByteArray):Bool:=[47,47].isPrefixOf s.data.toList
def UU (s:ByteArray):Nat:=Tk.FD s.data.toList
theorem xQ (s:ByteArray) (w:World):
 Calls Tryz.prog 95 #[.string s,.string ⟨#[47,47]⟩] w λe w'=>e= .returned (.bool (aQ9 s))∧w=w':=O5 s _ w
theorem WW (s:ByteArray) (w:World) (hs:s.size<=4096):
 Calls Tryz.prog 96 #[.string s] w λe w'=>e= .returned (.int .i64 (UU s))∧w=w':=Rt s w hs
theorem Dp (s:ByteArray) (k:Nat):(s.extract k s.size).data.toList=s.data.toList.drop k:=by
 rw[Lib.extract_data,List.take_of_length_le (by rw[List.length_drop,Lib.size_eq];exact aB _)]
theorem aW3 (c:UInt8) (h:c≠10):((c.toNat:Int)==10)=false:=by
 rw[beq_eq_false_iff_ne];intro e;exact h (UInt8.toNat_inj.1 (by rw[show c.toNat=10 from by omega];rfl))
theorem Ro (c:UInt8):((c=32∨c=9∨c=13)∧(((c.toNat:Int)==32)=true∨(((c.toNat:Int)==32)=false∧((c.toNat:Int)==9)=true)∨(((c.toNat:Int)==32)=false∧((c.toNat:Int)==9)=false∧((c.toNat:Int)==13)=true)))∨
 (¬(c=32∨c=9∨c=13)∧((c.toNat:Int)==32)=false∧((c.toNat:Int)==9)=false∧((c.toNat:Int)==13)=false):=by
 by_cases h1:c=32
 ·subst h1;left;exact⟨.inl rfl,.inl rfl⟩
 ·by_cases h2:c=9
  ·subst h2;left;exact⟨.inr (.inl rfl),.inr (.inl ⟨rfl,rfl⟩)⟩
  ·by_cases h3:c=13
   ·subst h3;left;exact⟨.inr (.inr rfl),.inr (.inr ⟨rfl,rfl,rfl⟩)⟩
   ·right;have nb: ∀x:UInt8,c≠x->((c.toNat:Int)==(x.toNat:Int))=false:=(by intro x h;rw[beq_eq_false_iff_ne];intro e;exact h (UInt8.toNat_inj.1 (by omega)));exact⟨by simp[h1,h2,h3],nb 32 h1,nb 9 h2,nb 13 h3⟩
theorem Zr (s:ByteArray) (w:World) (eH:eG w) (hm:s.size<=maxLen):
 Calls Tryz.prog 71 #[.string s] w (PI w (Tk.scan s.data.toList)):=by
 have hsz:=Lib.size_eq s;unfold maxLen at hm;by_cases hbig:4096<s.size
 ·have HR:aj (Tk.scan s.data.toList=([],2,0)):=by apply ah;unfold Tk.scan;rw[if_pos (by omega)]
  clear hsz;go_enter Tryz.func71,Tryz.ntmps71;go_wp2
  go_ret3
  rw[HR.o];exact⟨_,rfl,World.ownsRow_nil _ _ _ _,ak _ _⟩
 ·have HR:aj (Tk.scan s.data.toList=Tk.mO s.data.toList.length s.data.toList 1 []):=by apply ah;unfold Tk.scan;rw[if_neg (by omega)]
  have hst:=Tk.SP.start s.data.toList;rw[<- HR.o]at hst;generalize Tk.scan s.data.toList=R at *;clear HR hsz;obtain⟨i0,hi,hz0,hz1,hz2⟩:=info_parts Tryz.infoTok;have hs:s.size<=4096:=by omega
  clear hbig hm;go_enter Tryz.func71,Tryz.ntmps71;go_wp2;go_loopw [5,6,7] (λv ln i wr=> ∃(k line:Nat) (acc:List Tk.Tok),i= .int .i64 k∧ln= .int .i64 line∧Tk.SP s.data.toList R k line acc∧
   wr.ownsRow w.heap.size 156 3 v acc.length (Tk.cellsOf acc)∧Below w.heap.size w wr) (λ_ _ i _=>s.size -(intOf i).toNat)
  case atStart=>exact⟨0,1,[],rfl,rfl,hst,World.ownsRow_nil _ _ _ _,ak _ _⟩
  case round=>
   obtain⟨k,line,acc,rfl,rfl,hsp,hown,hbel⟩:=hrel;clear hst;have hk:k<=s.size:=by rw[Lib.size_eq];exact hsp.1
   have bJ6:line<=k+1:=hsp.2.1;by_cases hlt:k<s.size
   ·have hlt':k<s.data.toList.length:=(by rw[<- Lib.size_eq];exact hlt);have hget:s.data.toList[k]=s[k]:=rfl;by_cases h10:s[k]=10
    ·have hnx:=hsp.nl hlt' h10;have hb:((s[k].toNat:Int)==10)=true:=(by rw[h10];rfl);clear h10 hget;go_wp2;go_roundw
     case rel=>exact⟨k+1,line+1,acc,by go_num,by go_num,hnx,hown,hbel⟩
     case measure=>simp[intOf];omega
    ·have hb:=aW3 _ h10;rcases Ro s[k]with⟨hbl,hcase⟩|⟨hbl,t1,t2,t3⟩
     ·have hnx:=hsp.blank hlt' hbl;clear h10 hget hbl;rcases hcase with t1|⟨t1,t2⟩|⟨t1,t2,t3⟩
      all_goals
       go_wp2;go_roundw
       case rel=>exact⟨k+1,line,acc,by go_num,rfl,hnx,hown,hbel⟩
       case measure=>simp[intOf];omega
     ·have hts:(s.extract k s.size).size=s.size -k:=(by simp);have aL2:eG wr:=eH.below hbel eH.lt;cases hp:aQ9 (s.extract k s.size)
      ·have hp':[47,47].isPrefixOf (s.data.toList.drop k)=false:=(by rw[<- Dp];exact hp);have hte:(s.extract k s.size).size<=4096:=(by omega);have ht0:0<(s.extract k s.size).size:=(by omega);have hok:=λh4=>hsp.tok hlt' h10 hbl hp' h4;have ZV:=λh4=>hsp.err hlt' h10 hbl hp' h4;have Hd:=ah (Dp s k);clear h10 hget hbl hp' hts;generalize hr:Tk.first (s.data.toList.drop k)=r at *;have Hr:=ah hr;clear hr;obtain⟨en,kind,text⟩:=r;by_cases he:en=0
       ·subst he;obtain⟨hnx,htl⟩:=hok rfl;simp only[]at hnx htl;clear hok ZV;have hle:k+text.length<=s.size:=(by have:=hnx.1;rw[<- Lib.size_eq]at this;exact this);have hacc:acc.length<=4096:=(by have:=hsp.2.2.1;omega);have hth:(⟨text.toArray⟩:ByteArray).size=text.length:=Lib.size_mk _;go_wp2_with (go_at_call 95;refine(xQ _ _).mono ?_;rintro e w' ⟨rfl,rfl⟩);refine(Ns _ _ hte ht0 aL2).mono ?_;rintro e w1 ⟨rfl,hb1⟩;rw[Hd.o,Hr.o];unfold yI;have hown1:=own_below hown hb1;have hbs:=hbel.size;have bM4:=hb1.size;go_wp2_with (at_builtin;refine wpList_append_own _ rfl _ _ 130 rfl w.heap.size 156 i0 _ 3 32 Tryz.underlying130 hi hz0 hz1 hz2 rfl (by decide) _ _ _ rfl ((hown1.alloc _).alloc _) ⟨w1.heap.size+1,0,none⟩ 1 1 [.int .i64 kind,.string ⟨text.toArray⟩,.int .i64 line] rfl rfl ?c1 ?c2 ?c3 ?c4 ?c5 ?_)
        case c1=>
         intro j u hj
         match j,hj with
         |0,hj=>simp at hj;subst hj;simp[Addr.add]
         |1,hj=>simp at hj;subst hj;simp[Addr.add]
         |2,hj=>simp at hj;subst hj;simp[Addr.add]
        case c2=>intro u hu;simp at hu;rcases hu with rfl|rfl|rfl <;> rfl
        case c3=>unfold maxLen;omega
        case c4=>omega
        case c5=>simp;omega
        intro v' w2 hown2 hgrow2 _;have hcell:=ag1 hown1 _ _ _ hgrow2 1;have aU1:=YD hown1 (hbel.trans (hb1.mono hbs)) (by omega) _ _ hgrow2;have hown3:w2.ownsRow w.heap.size 156 3 v' (acc++[(⟨kind,text,line⟩:Tk.Tok)]).length (Tk.cellsOf (acc++[(⟨kind,text,line⟩:Tk.Tok)])):=(by rw[Tk.PY,Tk.cells_one,ay];exact hown2);clear hown2 hgrow2 hown1 hown hb1 hbel hi hz0 hz1 hz2;simp only[List.getElem?_toArray,List.getElem?_cons_succ,List.getElem?_cons_zero]at hcell;go_wp2;go_roundw
        case rel=>exact⟨k+text.length,line,_,by go_num,rfl,hnx,hown3,aU1⟩
        case measure=>simp[intOf];omega
       ·have hR:=ah (ZV he);have he1:((en:Int)==0)=false:=(by rw[beq_eq_false_iff_ne];omega);have he2:((en:Int) != 0)=true:=(by rw[bne_iff_ne];omega);clear hok ZV he;go_wp2_with (go_at_call 95;refine(xQ _ _).mono ?_;rintro e w' ⟨rfl,rfl⟩);refine(Ns _ _ hte ht0 aL2).mono ?_;rintro e w1 ⟨rfl,hb1⟩;rw[Hd.o,Hr.o];unfold yI;have hbs:=hbel.size;go_wp2
        go_ret3
        rw[hR.o];exact⟨_,rfl,World.ownsRow_nil _ _ _ _,(hbel.trans (hb1.mono hbs)).alloc (by have:=hb1.size;omega) _⟩
      ·have hp':[47,47].isPrefixOf (s.data.toList.drop k)=true:=(by rw[<- Dp];exact hp);obtain⟨hnx,hc1⟩:=hsp.FD hlt' h10 hbl hp';rw[<- Dp]at hnx hc1;have hc1':1<=UU (s.extract k s.size):=hc1;have hle:k+UU (s.extract k s.size)<=s.size:=(by have:=hnx.1;rw[<- Lib.size_eq]at this;exact this);have hte:(s.extract k s.size).size<=4096:=(by omega);clear h10 hget hbl hp' hc1 hts;go_wp2_with (first|(go_at_call 95;refine(xQ _ _).mono ?_;rintro e w' ⟨rfl,rfl⟩)|(go_at_call 96;refine(WW _ _ hte).mono ?_;rintro e w' ⟨rfl,rfl⟩));go_roundw
       case rel=>exact⟨k+UU (s.extract k s.size),line,acc,by go_num,rfl,hnx,hown,hbel⟩
       case measure=>simp[intOf];omega
   ·have hR:=ah (hsp.done (by rw[<- Lib.size_eq];exact hlt));go_wp2
    go_ret3
    rw[hR.o];exact⟨_,rfl,hown,hbel⟩
end Go.Proofs.YtmildapbbcbbhaaGreatDoor
end
