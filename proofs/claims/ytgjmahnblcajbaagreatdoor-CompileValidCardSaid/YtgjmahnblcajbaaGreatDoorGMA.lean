/- Expressions as data, and what it is that a row of them lies in memory. No program in sight. And what hangs on it. -/
import Derived.Test.YtgjmahnblcajbaaGreatDoorGA
import Derived.WalkSmall
import Derived.Deep.QuietTactic
import Derived.BigQuiet
import Derived.Deep.DeepCutAuto
set_option linter.unusedSimpArgs false
set_option linter.unusedVariables false
set_option maxHeartbeats 40000000
set_option maxRecDepth 1000000
namespace Go.Proofs.YtgjmahnblcajbaaGreatDoor
open Go.RowKit
theorem bS (w:World) (cs:List Value) (t:TypeId) (j:Nat):(w.alloc (.cells cs.toArray t)).cell? ⟨w.heap.size,j,none⟩=cs[j]?:=LA w cs t j
def wE (w W:World) (a b c d:Value):Prop:=
 Below w.heap.size w W∧w.heap.size < W.heap.size∧W.cell? ⟨w.heap.size,0,none⟩=some a∧W.cell? ⟨w.heap.size,1,none⟩=some b∧W.cell? ⟨w.heap.size,2,none⟩=some c∧W.cell? ⟨w.heap.size,3,none⟩=some d
theorem wE.mk {w W:World} {a b c d:Value} {t:TypeId} (h:w.alloc (.cells #[a,b,c,d] t)=W):wE w W a b c d:=by
 subst h;exact ⟨(Below.refl _ _).alloc (Nat.le_refl _) _,by simp,bS w [a,b,c,d] t 0,bS w [a,b,c,d] t 1,bS w [a,b,c,d] t 2,bS w [a,b,c,d] t 3⟩
theorem wE.next {w W W':World} {a b c d:Value} (h:wE w W a b c d) (hb:Below W.heap.size W W'):wE w W' a b c d:=by
 obtain ⟨h0,hs,c0,c1,c2,c3⟩:=h;exact ⟨h0.trans (hb.mono h0.size),Nat.lt_of_lt_of_le hs hb.size,(hb.cell hs).trans c0,(hb.cell hs).trans c1,(hb.cell hs).trans c2,(hb.cell hs).trans c3⟩
theorem wE.draws {w W:World} {a b c d:Value} (h:wE w W a b c d) (n:Nat):wE w (W.drewN n) a b c d:=h.next (below_drewN (Below.refl _ _) n)
namespace Md
def bV (n:Int):Prop:= -9223372036854775808<=n∧n<=9223372036854775807
inductive bf where
 | nil
 | cons (op n:Int) (nm:ByteArray) (kids rest:bf)
def bf.len:bf->Nat
 | .nil=>0
 | .cons _ _ _ _ r=>r.len + 1
def xW (op n:Int) (nm:ByteArray) (kids:bf):Prop:=bV op∧bV n∧nm.size<=maxLen∧kids.len<=maxLen
def bf.At (w:World) (B:Nat):bf->Option Addr->Nat->Prop
 | .nil,_,_=>True
 | .cons op n nm kids rest,ao,k=>
   (∃b off mH cap,ao=some ⟨b,off,none⟩∧b < B∧w.cell? ⟨b,off + k * 4,none⟩=some (.int .i64 op)∧w.cell? ⟨b,off + k * 4 + 1,none⟩=some (.int .i64 n)∧
    w.cell? ⟨b,off + k * 4 + 2,none⟩=some (.string nm)∧w.cell? ⟨b,off + k * 4 + 3,none⟩=some (.slice mH kids.len cap)∧xW op n nm kids∧kids.At w B mH 0)∧
   rest.At w B ao (k + 1)
theorem bf.At.below {w w':World} {B:Nat} (hb:Below B w w'): ∀ {l:bf} {ao:Option Addr} {k:Nat},l.At w B ao k->l.At w' B ao k
 | .nil,_,_,_=>trivial
 | .cons _ _ _ _ _,_,_,h=>by obtain ⟨⟨b,off,mH,cap,e,hB,c0,c1,c2,c3,hok,hk⟩,hr⟩:=h;exact ⟨⟨b,off,mH,cap,e,hB,(hb.cell hB).trans c0,(hb.cell hB).trans c1,(hb.cell hB).trans c2,(hb.cell hB).trans c3,hok,hk.below hb⟩,hr.below hb⟩
theorem bf.At.mono {w:World} {B B':Nat} (hB':B<=B'): ∀ {l:bf} {ao:Option Addr} {k:Nat},l.At w B ao k->l.At w B' ao k
 | .nil,_,_,_=>trivial
 | .cons _ _ _ _ _,_,_,h=>by obtain ⟨⟨b,off,mH,cap,e,hB,c0,c1,c2,c3,hok,hk⟩,hr⟩:=h;exact ⟨⟨b,off,mH,cap,e,Nat.lt_of_lt_of_le hB hB',c0,c1,c2,c3,hok,hk.mono hB'⟩,hr.mono hB'⟩
theorem bf.At.same {w w':World} {l:bf} {ao:Option Addr} {k:Nat} (h:l.At w w.heap.size ao k) (hb:Below w.heap.size w w'):l.At w' w'.heap.size ao k:=
 (h.below hb).mono hb.size
def bf.All (Q:Int->Int->ByteArray->bf->Prop):bf->Prop
 | .nil=>True
 | .cons op n nm kids rest=>Q op n nm kids∧rest.All Q
theorem bf.mU {Q:Int->Int->ByteArray->bf->Prop} (step: ∀op n nm kids,kids.All Q->Q op n nm kids): ∀l:bf,l.All Q
 | .nil=>trivial
 | .cons op n nm kids rest=>⟨step op n nm kids (mU step kids),mU step rest⟩
theorem bf.ER {Q:Int->Int->ByteArray->bf->Prop} (step: ∀op n nm kids,kids.All Q->Q op n nm kids) (op n:Int) (nm:ByteArray) (kids:bf):Q op n nm kids:=
 step op n nm kids (bf.mU step kids)
def opsOf (op:Int):Int:=if op == 1 || op == 2 then 0 else if op == 3 || op == 4 || op == 5 then 1 else if decide (6<=op) && decide (op<=18) then 2 else -1
def named (op:Int):Bool:=op == 2 || op == 3
def qg (nm:ByteArray) (b:Bool):Bool:=if b then Tk.iO nm.data.toList else nm.data.toList.isEmpty
def GZ (op n:Int) (nm:ByteArray) (len:Nat):Bool:=((len:Int) == opsOf op) && (!(decide (n < 0) || (!(n == 0) && !(op == 1))) && qg nm (named op))
def oo:bf->Bool
 | .nil=>true
 | .cons op n nm kids rest=>(GZ op n nm kids.len && oo kids) && oo rest
def jP (op n:Int) (nm:ByteArray) (kids:bf):Bool:=GZ op n nm kids.len && oo kids
end Md
open Md
theorem nI {P:Program} {f:FuncId} {args:Array Value} {w:World} {n:Nat} {v:Value} (h:Calls P f args (w.drewN n) fun e w'=>e= .returned v∧w.drewN n=w'):
 Calls P f args (w.drewN n) fun e w''=>e= .returned v∧ ∃m,w''=w.drewN m:=h.mono fun _ _ ⟨he,hm⟩=>⟨he,n,hm.symm⟩
theorem jo {P:Program} {id:Nat} {Q:Exit->Act->World->Prop} {a:Act} {w:World} {l:List Oper} {T:Type} (F:T->World) (hm:P.follows .mixedOrders=true) (hB:Region.lexB .any l.toArray=true)
 (h1: ∃x,w.drewN 1=F x) (h:wpQuiet P l.toArray (fun w'=> ∃x,w'=F x) (fun a'=> ∀w',(∃x,w'=F x)->Q .normal a' w') l a):(Code.region id l.toArray true).wp P Q a w:=
 wp_region_quiet (C:=fun w'=> ∃x,w'=F x) hm hB h1 (by simpa using h)
theorem calm (W:World): ∃(T:Type) (F:T->World),Nonempty T∧(∃x,W.drewN 1=F x)∧(∀x,Below W.heap.size W (F x))∧ ∀x w',Below (F x).heap.size (F x) w'-> ∃y,w'=F y:=
 ⟨{W' // Below W.heap.size W W'},Subtype.val,⟨⟨_,Below.refl _ _⟩⟩,⟨⟨_,below_drewN (Below.refl _ _) 1⟩,rfl⟩,fun x=>x.2,fun x w' hb=>⟨⟨w',x.2.trans (hb.mono x.2.size)⟩,rfl⟩⟩
def Holds (W:World):List (Nat × Nat × Value)->Prop
 | []=>True
 | f ::r=>(f.1 < W.heap.size∧W.cell? ⟨f.1,f.2.1,none⟩=some f.2.2)∧Holds W r
theorem Holds.next {W W':World} (hb:Below W.heap.size W W'): ∀ {l:List (Nat × Nat × Value)},Holds W l->Holds W' l
 | [],_=>trivial
 | _ ::_,⟨⟨h1,h2⟩,h3⟩=>⟨⟨Nat.lt_of_lt_of_le h1 hb.size,(hb.cell h1).trans h2⟩,h3.next hb⟩
def Sit (w W:World) (fs:List (Nat × Nat × Value)):Prop:=Below w.heap.size w W∧Holds W fs
theorem Sit.start (w:World):Sit w w []:=⟨Below.refl _ _,trivial⟩
theorem Sit.next {w W W':World} {fs:List (Nat × Nat × Value)} (h:Sit w W fs) (hb:Below W.heap.size W W'):Sit w W' fs:=
 ⟨h.1.trans (hb.mono h.1.size),h.2.next hb⟩
theorem Sit.draws {w W:World} {fs:List (Nat × Nat × Value)} (h:Sit w W fs) (n:Nat):Sit w (W.drewN n) fs:=h.next (below_drewN (Below.refl _ _) n)
theorem au (W:World) (o:Obj):Below W.heap.size W (W.alloc o):=(Below.refl _ _).alloc (Nat.le_refl _) _
theorem Sit.JI {w W:World} {fs:List (Nat × Nat × Value)} {n:Nat} (h:Sit w W fs) (hn:W.heap.size=n) (a b:Value) (t:TypeId):
 Sit w (W.alloc (.cells #[a,b] t)) ((n,0,a) ::(n,1,b) ::fs):=by
 subst hn;exact ⟨(h.next (au _ _)).1,⟨by simp,bS W [a,b] t 0⟩,⟨by simp,bS W [a,b] t 1⟩,(h.next (au _ _)).2⟩
theorem Sit.Gj {w W:World} {fs:List (Nat × Nat × Value)} {n:Nat} (h:Sit w W fs) (hn:W.heap.size=n) (a b c d:Value) (t:TypeId):
 Sit w (W.alloc (.cells #[a,b,c,d] t)) ((n,0,a) ::(n,1,b) ::(n,2,c) ::(n,3,d) ::fs):=by
 subst hn;exact ⟨(h.next (au _ _)).1,⟨by simp,bS W [a,b,c,d] t 0⟩,⟨by simp,bS W [a,b,c,d] t 1⟩,⟨by simp,bS W [a,b,c,d] t 2⟩,⟨by simp,bS W [a,b,c,d] t 3⟩,(h.next (au _ _)).2⟩
theorem Sit.VU {w W:World} {fs:List (Nat × Nat × Value)} {n:Nat} (h:Sit w W fs) (hn:W.heap.size=n) (a b c d e f:Value) (t:TypeId):
 Sit w (W.alloc (.cells #[a,b,c,d,e,f] t)) ((n,0,a) ::(n,1,b) ::(n,2,c) ::(n,3,d) ::(n,4,e) ::(n,5,f) ::fs):=by
 subst hn;exact ⟨(h.next (au _ _)).1,⟨by simp,bS W [a,b,c,d,e,f] t 0⟩,⟨by simp,bS W [a,b,c,d,e,f] t 1⟩,⟨by simp,bS W [a,b,c,d,e,f] t 2⟩,⟨by simp,bS W [a,b,c,d,e,f] t 3⟩,⟨by simp,bS W [a,b,c,d,e,f] t 4⟩,⟨by simp,bS W [a,b,c,d,e,f] t 5⟩,(h.next (au _ _)).2⟩
theorem Sit.Aq {w W:World} {fs:List (Nat × Nat × Value)} {n:Nat} (hs:Sit w W fs) (hn:W.heap.size=n) (a b c d e f g h i j k:Value) (t:TypeId):
 Sit w (W.alloc (.cells #[a,b,c,d,e,f,g,h,i,j,k] t)) ((n,0,a) ::(n,1,b) ::(n,2,c) ::(n,3,d) ::(n,4,e) ::(n,5,f) ::(n,6,g) ::(n,7,h) ::(n,8,i) ::(n,9,j) ::(n,10,k) ::fs):=by
 subst hn;exact ⟨(hs.next (au _ _)).1,⟨by simp,bS W [a,b,c,d,e,f,g,h,i,j,k] t 0⟩,⟨by simp,bS W [a,b,c,d,e,f,g,h,i,j,k] t 1⟩,⟨by simp,bS W [a,b,c,d,e,f,g,h,i,j,k] t 2⟩,⟨by simp,bS W [a,b,c,d,e,f,g,h,i,j,k] t 3⟩,⟨by simp,bS W [a,b,c,d,e,f,g,h,i,j,k] t 4⟩,⟨by simp,bS W [a,b,c,d,e,f,g,h,i,j,k] t 5⟩,⟨by simp,bS W [a,b,c,d,e,f,g,h,i,j,k] t 6⟩,⟨by simp,bS W [a,b,c,d,e,f,g,h,i,j,k] t 7⟩,⟨by simp,bS W [a,b,c,d,e,f,g,h,i,j,k] t 8⟩,⟨by simp,bS W [a,b,c,d,e,f,g,h,i,j,k] t 9⟩,⟨by simp,bS W [a,b,c,d,e,f,g,h,i,j,k] t 10⟩,(hs.next (au _ _)).2⟩
namespace Md
structure De where
 kind:Int
 line:Int
 nm:ByteArray
 size:Int
 init:Int
 on:ByteArray
def De.Ok (d:De):Prop:=bV d.kind∧bV d.line∧d.nm.size<=maxLen∧bV d.size∧bV d.init∧d.on.size<=maxLen
structure aX where
 op:Int
 line:Int
 nm:ByteArray
 arg:ByteArray
 idx:bf
 dP:Int
 xn:Int
 dO:ByteArray
 aO:bf
inductive aJ where
 | nil
 | cons (h:aX) (body els rest:aJ)
def aJ.len:aJ->Nat
 | .nil=>0
 | .cons _ _ _ r=>r.len + 1
def aJ.All (Q:aX->aJ->aJ->Prop):aJ->Prop
 | .nil=>True
 | .cons h b e r=>Q h b e∧r.All Q
theorem aJ.mU {Q:aX->aJ->aJ->Prop} (step: ∀h b e,b.All Q->e.All Q->Q h b e): ∀l:aJ,l.All Q
 | .nil=>trivial
 | .cons h b e r=>⟨step h b e (mU step b) (mU step e),mU step r⟩
theorem aJ.ER {Q:aX->aJ->aJ->Prop} (step: ∀h b e,b.All Q->e.All Q->Q h b e) (h:aX) (b e:aJ):Q h b e:=
 step h b e (aJ.mU step b) (aJ.mU step e)
structure Th where
 nm:ByteArray
 line:Int
 cu:List ByteArray
 body:aJ
def dU (w:World) (B:Nat):List ByteArray->Option Addr->Nat->Prop
 | [],_,_=>True
 | s ::r,ao,k=>(∃b off,ao=some ⟨b,off,none⟩∧b < B∧w.cell? ⟨b,off + k,none⟩=some (.string s)∧s.size<=maxLen)∧dU w B r ao (k + 1)
def gQ (w:World) (B:Nat):List De->Option Addr->Nat->Prop
 | [],_,_=>True
 | d ::r,ao,k=>(∃b off,ao=some ⟨b,off,none⟩∧b < B∧w.cell? ⟨b,off + k * 6,none⟩=some (.int .i64 d.kind)∧w.cell? ⟨b,off + k * 6 + 1,none⟩=some (.int .i64 d.line)∧
     w.cell? ⟨b,off + k * 6 + 2,none⟩=some (.string d.nm)∧w.cell? ⟨b,off + k * 6 + 3,none⟩=some (.int .i64 d.size)∧w.cell? ⟨b,off + k * 6 + 4,none⟩=some (.int .i64 d.init)∧
     w.cell? ⟨b,off + k * 6 + 5,none⟩=some (.string d.on)∧d.Ok)∧gQ w B r ao (k + 1)
def uP (h:aX) (body els:aJ):Prop:=
 bV h.op∧bV h.line∧h.nm.size<=maxLen∧h.arg.size<=maxLen∧h.idx.len<=maxLen∧xW h.dP h.xn h.dO h.aO∧body.len<=maxLen∧els.len<=maxLen
def aJ.At (w:World) (B:Nat):aJ->Option Addr->Nat->Prop
 | .nil,_,_=>True
 | .cons h body els rest,ao,k=>
   (∃b off dw bJ dZ dI cK aZ fF dX,ao=some ⟨b,off,none⟩∧b < B∧w.cell? ⟨b,off + k * 11,none⟩=some (.int .i64 h.op)∧w.cell? ⟨b,off + k * 11 + 1,none⟩=some (.int .i64 h.line)∧
    w.cell? ⟨b,off + k * 11 + 2,none⟩=some (.string h.nm)∧w.cell? ⟨b,off + k * 11 + 3,none⟩=some (.string h.arg)∧w.cell? ⟨b,off + k * 11 + 4,none⟩=some (.slice dw h.idx.len bJ)∧
    w.cell? ⟨b,off + k * 11 + 5,none⟩=some (.int .i64 h.dP)∧w.cell? ⟨b,off + k * 11 + 6,none⟩=some (.int .i64 h.xn)∧w.cell? ⟨b,off + k * 11 + 7,none⟩=some (.string h.dO)∧w.cell? ⟨b,off + k * 11 + 8,none⟩=some (.slice dZ h.aO.len dI)∧
    w.cell? ⟨b,off + k * 11 + 9,none⟩=some (.slice cK body.len aZ)∧w.cell? ⟨b,off + k * 11 + 10,none⟩=some (.slice fF els.len dX)∧uP h body els∧
    h.idx.At w B dw 0∧h.aO.At w B dZ 0∧body.At w B cK 0∧els.At w B fF 0)∧rest.At w B ao (k + 1)
def Th.Ok (t:Th):Prop:=t.nm.size<=maxLen∧bV t.line∧t.cu.length<=maxLen∧t.body.len<=maxLen
def gF (w:World) (B:Nat):List Th->Option Addr->Nat->Prop
 | [],_,_=>True
 | t ::r,ao,k=>(∃b off eZ dM cK aZ,ao=some ⟨b,off,none⟩∧b < B∧w.cell? ⟨b,off + k * 4,none⟩=some (.string t.nm)∧w.cell? ⟨b,off + k * 4 + 1,none⟩=some (.int .i64 t.line)∧
     w.cell? ⟨b,off + k * 4 + 2,none⟩=some (.slice eZ t.cu.length dM)∧w.cell? ⟨b,off + k * 4 + 3,none⟩=some (.slice cK t.body.len aZ)∧t.Ok∧dU w B t.cu eZ 0∧t.body.At w B cK 0∧t.cu.length<=dM)∧gF w B r ao (k + 1)
section
variable {w w':World} {B B':Nat}
theorem dU.below (hb:Below B w w'): ∀ {l:List ByteArray} {ao:Option Addr} {k:Nat},dU w B l ao k->dU w' B l ao k
 | [],_,_,_=>trivial
 | _ ::_,_,_,⟨⟨b,off,e,hB,c,hs⟩,hr⟩=>⟨⟨b,off,e,hB,(hb.cell hB).trans c,hs⟩,dU.below hb hr⟩
theorem dU.mono (h:B<=B'): ∀ {l:List ByteArray} {ao:Option Addr} {k:Nat},dU w B l ao k->dU w B' l ao k
 | [],_,_,_=>trivial
 | _ ::_,_,_,⟨⟨b,off,e,hB,c,hs⟩,hr⟩=>⟨⟨b,off,e,Nat.lt_of_lt_of_le hB h,c,hs⟩,dU.mono h hr⟩
theorem dU.same {l:List ByteArray} {ao:Option Addr} {k:Nat} (h:dU w w.heap.size l ao k) (hb:Below w.heap.size w w'):dU w' w'.heap.size l ao k:=(h.below hb).mono hb.size
theorem dU.drop: ∀ {l:List ByteArray} {ao:Option Addr} {k:Nat} (i:Nat),dU w B l ao k->dU w B (l.drop i) ao (k + i)
 | _,_,_,0,h=>h
 | [],_,_,_ + 1,_=>by simp [dU]
 | _ ::_,_,k,i + 1,⟨_,hr⟩=>by have:=dU.drop i hr; rw [List.drop_succ_cons]; rwa [Nat.add_assoc,Nat.add_comm 1 i] at this
theorem gQ.below (hb:Below B w w'): ∀ {l:List De} {ao:Option Addr} {k:Nat},gQ w B l ao k->gQ w' B l ao k
 | [],_,_,_=>trivial
 | _ ::_,_,_,⟨⟨b,off,e,hB,c0,c1,c2,c3,c4,c5,hs⟩,hr⟩=>⟨⟨b,off,e,hB,(hb.cell hB).trans c0,(hb.cell hB).trans c1,(hb.cell hB).trans c2,(hb.cell hB).trans c3,(hb.cell hB).trans c4,(hb.cell hB).trans c5,hs⟩,gQ.below hb hr⟩
theorem gQ.mono (h:B<=B'): ∀ {l:List De} {ao:Option Addr} {k:Nat},gQ w B l ao k->gQ w B' l ao k
 | [],_,_,_=>trivial
 | _ ::_,_,_,⟨⟨b,off,e,hB,c⟩,hr⟩=>⟨⟨b,off,e,Nat.lt_of_lt_of_le hB h,c⟩,gQ.mono h hr⟩
theorem gQ.same {l:List De} {ao:Option Addr} {k:Nat} (h:gQ w w.heap.size l ao k) (hb:Below w.heap.size w w'):gQ w' w'.heap.size l ao k:=(h.below hb).mono hb.size
theorem gQ.drop: ∀ {l:List De} {ao:Option Addr} {k:Nat} (i:Nat),gQ w B l ao k->gQ w B (l.drop i) ao (k + i)
 | _,_,_,0,h=>h
 | [],_,_,_ + 1,_=>by simp [gQ]
 | _ ::_,_,k,i + 1,⟨_,hr⟩=>by have:=gQ.drop i hr; rw [List.drop_succ_cons]; rwa [Nat.add_assoc,Nat.add_comm 1 i] at this
theorem dU.take: ∀ {pre R:List ByteArray} {ao:Option Addr} {k:Nat},dU w B (pre++R) ao k->dU w B pre ao k
 | [],_,_,_,_=>trivial
 | _ ::_,_,_,_,h=>⟨h.1,dU.take h.2⟩
theorem gQ.take: ∀ {pre R:List De} {ao:Option Addr} {k:Nat},gQ w B (pre++R) ao k->gQ w B pre ao k
 | [],_,_,_,_=>trivial
 | _ ::_,_,_,_,h=>⟨h.1,gQ.take h.2⟩
theorem aJ.At.below (hb:Below B w w'): ∀ {l:aJ} {ao:Option Addr} {k:Nat},l.At w B ao k->l.At w' B ao k
 | .nil,_,_,_=>trivial
 | .cons _ _ _ _,_,_,h=>by obtain ⟨⟨b,off,dw,bJ,dZ,dI,cK,aZ,fF,dX,e,hB,c0,c1,c2,c3,c4,c5,c6,c7,c8,c9,c10,hok,h1,h2,h3,h4⟩,hr⟩:=h;exact ⟨⟨b,off,dw,bJ,dZ,dI,cK,aZ,fF,dX,e,hB,(hb.cell hB).trans c0,(hb.cell hB).trans c1,(hb.cell hB).trans c2,(hb.cell hB).trans c3,(hb.cell hB).trans c4,(hb.cell hB).trans c5,(hb.cell hB).trans c6,(hb.cell hB).trans c7,(hb.cell hB).trans c8,(hb.cell hB).trans c9,(hb.cell hB).trans c10,hok,h1.below hb,h2.below hb,h3.below hb,h4.below hb⟩,hr.below hb⟩
theorem aJ.At.mono (h:B<=B'): ∀ {l:aJ} {ao:Option Addr} {k:Nat},l.At w B ao k->l.At w B' ao k
 | .nil,_,_,_=>trivial
 | .cons _ _ _ _,_,_,h'=>by obtain ⟨⟨b,off,dw,bJ,dZ,dI,cK,aZ,fF,dX,e,hB,c0,c1,c2,c3,c4,c5,c6,c7,c8,c9,c10,hok,h1,h2,h3,h4⟩,hr⟩:=h';exact ⟨⟨b,off,dw,bJ,dZ,dI,cK,aZ,fF,dX,e,Nat.lt_of_lt_of_le hB h,c0,c1,c2,c3,c4,c5,c6,c7,c8,c9,c10,hok,h1.mono h,h2.mono h,h3.mono h,h4.mono h⟩,hr.mono h⟩
theorem aJ.At.same {l:aJ} {ao:Option Addr} {k:Nat} (h:l.At w w.heap.size ao k) (hb:Below w.heap.size w w'):l.At w' w'.heap.size ao k:=(h.below hb).mono hb.size
theorem gF.below (hb:Below B w w'): ∀ {l:List Th} {ao:Option Addr} {k:Nat},gF w B l ao k->gF w' B l ao k
 | [],_,_,_=>trivial
 | _ ::_,_,_,⟨⟨b,off,eZ,dM,cK,aZ,e,hB,c0,c1,c2,c3,hs,ht,hst⟩,hr⟩=>⟨⟨b,off,eZ,dM,cK,aZ,e,hB,(hb.cell hB).trans c0,(hb.cell hB).trans c1,(hb.cell hB).trans c2,(hb.cell hB).trans c3,hs,ht.below hb,hst.1.below hb,hst.2⟩,gF.below hb hr⟩
theorem gF.mono (h:B<=B'): ∀ {l:List Th} {ao:Option Addr} {k:Nat},gF w B l ao k->gF w B' l ao k
 | [],_,_,_=>trivial
 | _ ::_,_,_,⟨⟨b,off,eZ,dM,cK,aZ,e,hB,c0,c1,c2,c3,hs,ht,hst⟩,hr⟩=>⟨⟨b,off,eZ,dM,cK,aZ,e,Nat.lt_of_lt_of_le hB h,c0,c1,c2,c3,hs,ht.mono h,hst.1.mono h,hst.2⟩,gF.mono h hr⟩
theorem gF.same {l:List Th} {ao:Option Addr} {k:Nat} (h:gF w w.heap.size l ao k) (hb:Below w.heap.size w w'):gF w' w'.heap.size l ao k:=(h.below hb).mono hb.size
theorem gF.drop: ∀ {l:List Th} {ao:Option Addr} {k:Nat} (i:Nat),gF w B l ao k->gF w B (l.drop i) ao (k + i)
 | _,_,_,0,h=>h
 | [],_,_,_ + 1,_=>by simp [gF]
 | _ ::_,_,k,i + 1,⟨_,hr⟩=>by have:=gF.drop i hr; rw [List.drop_succ_cons]; rwa [Nat.add_assoc,Nat.add_comm 1 i] at this
theorem gF.take: ∀ {pre R:List Th} {ao:Option Addr} {k:Nat},gF w B (pre++R) ao k->gF w B pre ao k
 | [],_,_,_,_=>trivial
 | _ ::_,_,_,_,h=>⟨h.1,gF.take h.2⟩
end
structure Pr where
 ds:List De
 ts:List Th
def Pr.At (w:World) (p:Pr) (aG aH:Option Addr):Prop:=p.ds.length<=maxLen∧p.ts.length<=maxLen∧gQ w w.heap.size p.ds aG 0∧gF w w.heap.size p.ts aH 0
theorem Pr.At.same {w w':World} {p:Pr} {aG aH:Option Addr} (h:p.At w aG aH) (hb:Below w.heap.size w w'):p.At w' aG aH:=⟨h.1,h.2.1,h.2.2.1.same hb,h.2.2.2.same hb⟩
def fH (d:De):Int:=
 if d.kind == 1 then (if d.size == 0 then 2 else 3) else if d.kind == 2 then 2 else if d.kind == 3 then 4 else if d.kind == 4 then 5 else if d.kind == 5 then 6 else if d.kind == 6 then 7 else 9
def rG (ds:List De) (nm:ByteArray):Option Int:=(ds.find? fun d=>d.nm.toList == nm.toList).map fH
def sS (ts:List Th) (nm:ByteArray):Int:=if ts.any fun t=>t.nm.toList == nm.toList then 8 else 0
def Cq (ts:List Th) (i:Int):List ByteArray:=if 0<=i then ((ts[i.toNat]?).map (·.cu)).getD [] else []
def AL (l:List ByteArray) (nm:ByteArray):Bool:=l.any fun s=>s.toList == nm.toList
def mean (p:Pr) (i:Int) (nm:ByteArray):Int:=if AL (Cq p.ts i) nm then 1 else (rG p.ds nm).getD (sS p.ts nm)
end Md
namespace Md
def fN (op:Int):Bool:=(op == 1 || (decide (4<=op) && decide (op<=6))) || (decide (9<=op) && decide (op<=15))
def fA (op:Int):Bool:=op == 15
def fI (op:Int):Bool:=op == 1
def fX (op:Int):Bool:=(op == 1 || op == 2) || (op == 3 || op == 14)
def fB (op:Int):Bool:=decide (2<=op) && decide (op<=8)
def fE (op:Int):Bool:=op == 2
def fO (op:Int):Bool:=decide (1<=op) && decide (op<=15)
def xk (op n:Int) (nm:ByteArray) (len:Nat):Bool:=((op == 0 && n == 0) && nm.toList.isEmpty) && len == 0
def lM (d:De):Bool:=(((decide (1<=d.kind) && decide (d.kind<=6)) && Tk.iO d.nm.data.toList) && (decide (0<=d.size) && (d.size == 0 || d.kind == 1))) && (((d.init != -9223372036854775808) && (d.init == 0 || (d.kind == 1 || d.kind == 2))) && qg d.on (d.kind == 5))
def qz (h:aX) (bl el:Nat):Bool:=
 ((fO h.op && (qg h.nm (fN h.op) && qg h.arg (fA h.op))) && ((decide (h.idx.len<=1) && (!(h.idx.len == 1) || fI h.op)) && oo h.idx)) &&
   ((if fX h.op then jP h.dP h.xn h.dO h.aO else xk h.dP h.xn h.dO h.aO.len) && ((fB h.op || bl == 0) && (fE h.op || el == 0)))
def iK:aJ->Bool
 | .nil=>true
 | .cons h b e r=>(qz h b.len e.len && (iK b && iK e)) && iK r
def K9 (h:aX) (b e:aJ):Bool:=qz h b.len e.len && (iK b && iK e)
theorem Jj (h:aX) (b e r:aJ):iK (.cons h b e r)=(K9 h b e && iK r):=rfl
def wV (t:Th):Bool:=(Tk.iO t.nm.data.toList && t.cu.all fun s=>Tk.iO s.data.toList) && iK t.body
def wU (p:Pr):Bool:=(p.ds.all lM && p.ts.all wV) && decide ((0:Int) < p.ts.length)
theorem op1 {x:Int} (h:x=1):(x == 1)=true∧(x == 2)=false∧(x == 3)=false∧(x == 4)=false∧(x == 5)=false∧(x == 6)=false∧(x == 7)=false∧(x == 8)=false∧(x == 9)=false∧(x == 10)=false∧(x == 11)=false∧(x == 12)=false∧(x == 13)=false∧(x == 14)=false∧(x == 15)=false:=by subst h; simp
theorem op2 {x:Int} (h:x=2):(x == 1)=false∧(x == 2)=true∧(x == 3)=false∧(x == 4)=false∧(x == 5)=false∧(x == 6)=false∧(x == 7)=false∧(x == 8)=false∧(x == 9)=false∧(x == 10)=false∧(x == 11)=false∧(x == 12)=false∧(x == 13)=false∧(x == 14)=false∧(x == 15)=false:=by subst h; simp
theorem op3 {x:Int} (h:x=3):(x == 1)=false∧(x == 2)=false∧(x == 3)=true∧(x == 4)=false∧(x == 5)=false∧(x == 6)=false∧(x == 7)=false∧(x == 8)=false∧(x == 9)=false∧(x == 10)=false∧(x == 11)=false∧(x == 12)=false∧(x == 13)=false∧(x == 14)=false∧(x == 15)=false:=by subst h; simp
theorem op4 {x:Int} (h:x=4):(x == 1)=false∧(x == 2)=false∧(x == 3)=false∧(x == 4)=true∧(x == 5)=false∧(x == 6)=false∧(x == 7)=false∧(x == 8)=false∧(x == 9)=false∧(x == 10)=false∧(x == 11)=false∧(x == 12)=false∧(x == 13)=false∧(x == 14)=false∧(x == 15)=false:=by subst h; simp
theorem op5 {x:Int} (h:x=5):(x == 1)=false∧(x == 2)=false∧(x == 3)=false∧(x == 4)=false∧(x == 5)=true∧(x == 6)=false∧(x == 7)=false∧(x == 8)=false∧(x == 9)=false∧(x == 10)=false∧(x == 11)=false∧(x == 12)=false∧(x == 13)=false∧(x == 14)=false∧(x == 15)=false:=by subst h; simp
theorem op6 {x:Int} (h:x=6):(x == 1)=false∧(x == 2)=false∧(x == 3)=false∧(x == 4)=false∧(x == 5)=false∧(x == 6)=true∧(x == 7)=false∧(x == 8)=false∧(x == 9)=false∧(x == 10)=false∧(x == 11)=false∧(x == 12)=false∧(x == 13)=false∧(x == 14)=false∧(x == 15)=false:=by subst h; simp
theorem op7 {x:Int} (h:x=7):(x == 1)=false∧(x == 2)=false∧(x == 3)=false∧(x == 4)=false∧(x == 5)=false∧(x == 6)=false∧(x == 7)=true∧(x == 8)=false∧(x == 9)=false∧(x == 10)=false∧(x == 11)=false∧(x == 12)=false∧(x == 13)=false∧(x == 14)=false∧(x == 15)=false:=by subst h; simp
theorem op8 {x:Int} (h:x=8):(x == 1)=false∧(x == 2)=false∧(x == 3)=false∧(x == 4)=false∧(x == 5)=false∧(x == 6)=false∧(x == 7)=false∧(x == 8)=true∧(x == 9)=false∧(x == 10)=false∧(x == 11)=false∧(x == 12)=false∧(x == 13)=false∧(x == 14)=false∧(x == 15)=false:=by subst h; simp
theorem op9 {x:Int} (h:x=9):(x == 1)=false∧(x == 2)=false∧(x == 3)=false∧(x == 4)=false∧(x == 5)=false∧(x == 6)=false∧(x == 7)=false∧(x == 8)=false∧(x == 9)=true∧(x == 10)=false∧(x == 11)=false∧(x == 12)=false∧(x == 13)=false∧(x == 14)=false∧(x == 15)=false:=by subst h; simp
theorem an7 {x:Int} (h:x=10):(x == 1)=false∧(x == 2)=false∧(x == 3)=false∧(x == 4)=false∧(x == 5)=false∧(x == 6)=false∧(x == 7)=false∧(x == 8)=false∧(x == 9)=false∧(x == 10)=true∧(x == 11)=false∧(x == 12)=false∧(x == 13)=false∧(x == 14)=false∧(x == 15)=false:=by subst h; simp
theorem an8 {x:Int} (h:x=11):(x == 1)=false∧(x == 2)=false∧(x == 3)=false∧(x == 4)=false∧(x == 5)=false∧(x == 6)=false∧(x == 7)=false∧(x == 8)=false∧(x == 9)=false∧(x == 10)=false∧(x == 11)=true∧(x == 12)=false∧(x == 13)=false∧(x == 14)=false∧(x == 15)=false:=by subst h; simp
theorem an9 {x:Int} (h:x=12):(x == 1)=false∧(x == 2)=false∧(x == 3)=false∧(x == 4)=false∧(x == 5)=false∧(x == 6)=false∧(x == 7)=false∧(x == 8)=false∧(x == 9)=false∧(x == 10)=false∧(x == 11)=false∧(x == 12)=true∧(x == 13)=false∧(x == 14)=false∧(x == 15)=false:=by subst h; simp
theorem ao4 {x:Int} (h:x=13):(x == 1)=false∧(x == 2)=false∧(x == 3)=false∧(x == 4)=false∧(x == 5)=false∧(x == 6)=false∧(x == 7)=false∧(x == 8)=false∧(x == 9)=false∧(x == 10)=false∧(x == 11)=false∧(x == 12)=false∧(x == 13)=true∧(x == 14)=false∧(x == 15)=false:=by subst h; simp
theorem ao5 {x:Int} (h:x=14):(x == 1)=false∧(x == 2)=false∧(x == 3)=false∧(x == 4)=false∧(x == 5)=false∧(x == 6)=false∧(x == 7)=false∧(x == 8)=false∧(x == 9)=false∧(x == 10)=false∧(x == 11)=false∧(x == 12)=false∧(x == 13)=false∧(x == 14)=true∧(x == 15)=false:=by subst h; simp
theorem ao6 {x:Int} (h:x=15):(x == 1)=false∧(x == 2)=false∧(x == 3)=false∧(x == 4)=false∧(x == 5)=false∧(x == 6)=false∧(x == 7)=false∧(x == 8)=false∧(x == 9)=false∧(x == 10)=false∧(x == 11)=false∧(x == 12)=false∧(x == 13)=false∧(x == 14)=false∧(x == 15)=true:=by subst h; simp
theorem kd1 {x:Int} (h:x=1):(x == 1)=true∧(x == 2)=false∧(x == 3)=false∧(x == 4)=false∧(x == 5)=false∧(x == 6)=false:=by subst h; simp
theorem kd2 {x:Int} (h:x=2):(x == 1)=false∧(x == 2)=true∧(x == 3)=false∧(x == 4)=false∧(x == 5)=false∧(x == 6)=false:=by subst h; simp
theorem kd3 {x:Int} (h:x=3):(x == 1)=false∧(x == 2)=false∧(x == 3)=true∧(x == 4)=false∧(x == 5)=false∧(x == 6)=false:=by subst h; simp
theorem kd4 {x:Int} (h:x=4):(x == 1)=false∧(x == 2)=false∧(x == 3)=false∧(x == 4)=true∧(x == 5)=false∧(x == 6)=false:=by subst h; simp
theorem kd5 {x:Int} (h:x=5):(x == 1)=false∧(x == 2)=false∧(x == 3)=false∧(x == 4)=false∧(x == 5)=true∧(x == 6)=false:=by subst h; simp
theorem kd6 {x:Int} (h:x=6):(x == 1)=false∧(x == 2)=false∧(x == 3)=false∧(x == 4)=false∧(x == 5)=false∧(x == 6)=true:=by subst h; simp
end Md
namespace Md
structure Sl where
 dw:Option Addr
 bJ:Nat
 dZ:Option Addr
 dI:Nat
 cK:Option Addr
 aZ:Nat
 fF:Option Addr
 dX:Nat
def fK (h:aX) (b e:aJ) (s:Sl):Value:= .agg #[.int .i64 h.op,.int .i64 h.line,.string h.nm,.string h.arg,.slice s.dw h.idx.len s.bJ,.int .i64 h.dP,.int .i64 h.xn,.string h.dO,.slice s.dZ h.aO.len s.dI,.slice s.cK b.len s.aZ,.slice s.fF e.len s.dX]
def yH (n:Nat) (h:aX) (b e:aJ) (s:Sl) (fs:List (Nat × Nat × Value)):List (Nat × Nat × Value):=
 (n,0,.int .i64 h.op) ::(n,1,.int .i64 h.line) ::(n,2,.string h.nm) ::(n,3,.string h.arg) ::(n,4,.slice s.dw h.idx.len s.bJ) ::(n,5,.int .i64 h.dP) ::(n,6,.int .i64 h.xn) ::(n,7,.string h.dO) ::(n,8,.slice s.dZ h.aO.len s.dI) ::(n,9,.slice s.cK b.len s.aZ) ::(n,10,.slice s.fF e.len s.dX) ::fs
def Em (w:World) (h:aX) (b e:aJ) (s:Sl):Prop:=uP h b e∧h.idx.At w w.heap.size s.dw 0∧h.aO.At w w.heap.size s.dZ 0∧b.At w w.heap.size s.cK 0∧e.At w w.heap.size s.fF 0
theorem Em.same {w w':World} {h:aX} {b e:aJ} {s:Sl} (hi:Em w h b e s) (hb:Below w.heap.size w w'):Em w' h b e s:=
 ⟨hi.1,hi.2.1.same hb,hi.2.2.1.same hb,hi.2.2.2.1.same hb,hi.2.2.2.2.same hb⟩
theorem aJ.At.head {w:World} {h:aX} {b e r:aJ} {ao:Option Addr} {k:Nat} (hat:(aJ.cons h b e r).At w w.heap.size ao k): ∃bl off s,ao=some ⟨bl,off,none⟩∧bl < w.heap.size∧Em w h b e s∧
 w.cell? ⟨bl,off + k * 11,none⟩=some (.int .i64 h.op)∧w.cell? ⟨bl,off + k * 11 + 1,none⟩=some (.int .i64 h.line)∧w.cell? ⟨bl,off + k * 11 + 2,none⟩=some (.string h.nm)∧w.cell? ⟨bl,off + k * 11 + 3,none⟩=some (.string h.arg)∧w.cell? ⟨bl,off + k * 11 + 4,none⟩=some (.slice s.dw h.idx.len s.bJ)∧
 w.cell? ⟨bl,off + k * 11 + 5,none⟩=some (.int .i64 h.dP)∧w.cell? ⟨bl,off + k * 11 + 6,none⟩=some (.int .i64 h.xn)∧w.cell? ⟨bl,off + k * 11 + 7,none⟩=some (.string h.dO)∧w.cell? ⟨bl,off + k * 11 + 8,none⟩=some (.slice s.dZ h.aO.len s.dI)∧
 w.cell? ⟨bl,off + k * 11 + 9,none⟩=some (.slice s.cK b.len s.aZ)∧w.cell? ⟨bl,off + k * 11 + 10,none⟩=some (.slice s.fF e.len s.dX)∧r.At w w.heap.size ao (k + 1):=by
 obtain ⟨⟨b,off,dw,bJ,dZ,dI,cK,aZ,fF,dX,e,hB,c0,c1,c2,c3,c4,c5,c6,c7,c8,c9,c10,hok,h1,h2,h3,h4⟩,hr⟩:=hat;exact ⟨b,off,⟨dw,bJ,dZ,dI,cK,aZ,fF,dX⟩,e,hB,⟨hok,h1,h2,h3,h4⟩,c0,c1,c2,c3,c4,c5,c6,c7,c8,c9,c10,hr⟩
end Md
theorem Zn (n:Nat):decide ((n:Int)<=1)=decide (n<=1):=by rw [decide_eq_decide]; omega
theorem Zm (n:Nat):decide ((n:Int)=1)=(n == 1):=by rw [Bool.eq_iff_iff,decide_eq_true_iff,beq_iff_eq]; omega
theorem Qr (n:Nat):decide ((n:Int)<=0)=(n == 0):=by rw [Bool.eq_iff_iff,decide_eq_true_iff,beq_iff_eq]; omega
end Go.Proofs.YtgjmahnblcajbaaGreatDoor
