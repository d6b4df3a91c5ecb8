/-
  Expressions as data, and what it is that a row of them lies in memory. No program in sight.
  Regions that draw their order and only read; callees there may make memory.
  Programs as data, and what it is that they lie in memory. No program text in sight.
  What it is that a program is shaped, and statements as values. No program text in sight.
-/
import Derived.Test.YtdajkddgnfgijaaGreatDoorGA
import Derived.WalkSmall
import Derived.Deep.QuietTactic
import Derived.BigQuiet
import Derived.Deep.DeepCutAuto
section
namespace Go.Proofs.YtdajkddgnfgijaaGreatDoor
open Go.RowKit
theorem bZ (w:World) (cs:List Value) (t:TypeId) (j:Nat):(w.alloc (.cells cs.toArray t)).cell? ⟨w.heap.size,j,none⟩=cs[j]?:=OM w cs t j
def tF (w W:World) (a b c d:Value):Prop:=
 Below w.heap.size w W∧w.heap.size < W.heap.size∧W.cell? ⟨w.heap.size,0,none⟩=some a∧W.cell? ⟨w.heap.size,1,none⟩=some b∧W.cell? ⟨w.heap.size,2,none⟩=some c∧W.cell? ⟨w.heap.size,3,none⟩=some d
theorem tF.mk {w W:World} {a b c d:Value} {t:TypeId} (h:w.alloc (.cells #[a,b,c,d] t)=W):tF w W a b c d:=by
 subst h
 exact ⟨(Below.refl _ _).alloc (Nat.le_refl _) _,by simp,bZ w [a,b,c,d] t 0,bZ w [a,b,c,d] t 1,bZ w [a,b,c,d] t 2,bZ w [a,b,c,d] t 3⟩
theorem tF.next {w W W':World} {a b c d:Value} (h:tF w W a b c d) (hb:Below W.heap.size W W'):tF w W' a b c d:=by
 obtain ⟨h0,hs,c0,c1,c2,c3⟩:=h
 exact ⟨h0.trans (hb.mono h0.size),Nat.lt_of_lt_of_le hs hb.size,(hb.cell hs).trans c0,(hb.cell hs).trans c1,(hb.cell hs).trans c2,(hb.cell hs).trans c3⟩
theorem tF.draws {w W:World} {a b c d:Value} (h:tF w W a b c d) (n:Nat):tF w (W.drewN n) a b c d:=h.next (below_drewN (Below.refl _ _) n)
namespace Md
def dR (n:Int):Prop:= -9223372036854775808≤n∧n≤9223372036854775807
inductive bL where
 | nil
 | cons (op n:Int) (nm:ByteArray) (kids rest:bL)
def bL.len:bL→Nat
 | .nil=>0
 | .cons _ _ _ _ r=>r.len + 1
def uK (op n:Int) (nm:ByteArray) (kids:bL):Prop:=dR op∧dR n∧nm.size≤maxLen∧kids.len≤maxLen
def bL.At (w:World) (B:Nat):bL→Option Addr→Nat→Prop
 | .nil,_,_=>True
 | .cons op n nm kids rest,ao,k=>
   (∃b off mH cap,ao=some ⟨b,off,none⟩∧b < B∧w.cell? ⟨b,off + k * 4,none⟩=some (.int .i64 op)∧w.cell? ⟨b,off + k * 4 + 1,none⟩=some (.int .i64 n)∧
    w.cell? ⟨b,off + k * 4 + 2,none⟩=some (.string nm)∧w.cell? ⟨b,off + k * 4 + 3,none⟩=some (.slice mH kids.len cap)∧uK op n nm kids∧kids.At w B mH 0)∧
   rest.At w B ao (k + 1)
theorem bL.At.below {w w':World} {B:Nat} (hb:Below B w w'): ∀ {l:bL} {ao:Option Addr} {k:Nat},l.At w B ao k→l.At w' B ao k
 | .nil,_,_,_=>trivial
 | .cons _ _ _ _ _,_,_,h=>by
   obtain ⟨⟨b,off,mH,cap,e,hB,c0,c1,c2,c3,hok,hk⟩,hr⟩:=h
   exact ⟨⟨b,off,mH,cap,e,hB,(hb.cell hB).trans c0,(hb.cell hB).trans c1,(hb.cell hB).trans c2,(hb.cell hB).trans c3,hok,hk.below hb⟩,hr.below hb⟩
theorem bL.At.mono {w:World} {B B':Nat} (hB':B≤B'): ∀ {l:bL} {ao:Option Addr} {k:Nat},l.At w B ao k→l.At w B' ao k
 | .nil,_,_,_=>trivial
 | .cons _ _ _ _ _,_,_,h=>by
   obtain ⟨⟨b,off,mH,cap,e,hB,c0,c1,c2,c3,hok,hk⟩,hr⟩:=h
   exact ⟨⟨b,off,mH,cap,e,Nat.lt_of_lt_of_le hB hB',c0,c1,c2,c3,hok,hk.mono hB'⟩,hr.mono hB'⟩
theorem bL.At.same {w w':World} {l:bL} {ao:Option Addr} {k:Nat} (h:l.At w w.heap.size ao k) (hb:Below w.heap.size w w'):l.At w' w'.heap.size ao k:=
 (h.below hb).mono hb.size
def bL.All (Q:Int→Int→ByteArray→bL→Prop):bL→Prop
 | .nil=>True
 | .cons op n nm kids rest=>Q op n nm kids∧rest.All Q
theorem bL.lG {Q:Int→Int→ByteArray→bL→Prop} (step: ∀op n nm kids,kids.All Q→Q op n nm kids): ∀l:bL,l.All Q
 | .nil=>trivial
 | .cons op n nm kids rest=>⟨step op n nm kids (lG step kids),lG step rest⟩
theorem bL.Br {Q:Int→Int→ByteArray→bL→Prop} (step: ∀op n nm kids,kids.All Q→Q op n nm kids) (op n:Int) (nm:ByteArray) (kids:bL):Q op n nm kids:=
 step op n nm kids (bL.lG step kids)
def opsOf (op:Int):Int:=if op == 1 || op == 2 then 0 else if op == 3 || op == 4 || op == 5 then 1 else if decide (6≤op) && decide (op≤18) then 2 else -1
def named (op:Int):Bool:=op == 2 || op == 3
def oD (nm:ByteArray) (b:Bool):Bool:=if b then Tk.kT nm.data.toList else nm.data.toList.isEmpty
def CY (op n:Int) (nm:ByteArray) (len:Nat):Bool:=((len:Int) == opsOf op) && (!(decide (n < 0) || (!(n == 0) && !(op == 1))) && oD nm (named op))
def mO:bL→Bool
 | .nil=>true
 | .cons op n nm kids rest=>(CY op n nm kids.len && mO kids) && mO rest
def jl (op n:Int) (nm:ByteArray) (kids:bL):Bool:=CY op n nm kids.len && mO kids
end Md
end Go.Proofs.YtdajkddgnfgijaaGreatDoor
end
section
namespace Go.Proofs.YtdajkddgnfgijaaGreatDoor
open Go.RowKit
open Md
theorem sS {P:Program} {f:FuncId} {args:Array Value} {w:World} {n:Nat} {v:Value} (h:Calls P f args (w.drewN n) fun e w'=>e= .returned v∧w.drewN n=w'):
 Calls P f args (w.drewN n) fun e w''=>e= .returned v∧ ∃m,w''=w.drewN m:=h.mono fun _ _ ⟨he,hm⟩=>⟨he,n,hm.symm⟩
theorem tO {P:Program} {id:Nat} {Q:Exit→Act→World→Prop} {a:Act} {w:World} {l:List Oper} {T:Type} (F:T→World) (hm:P.follows .mixedOrders=true) (hB:Region.lexB .any l.toArray=true)
 (h1: ∃x,w.drewN 1=F x) (h:wpQuiet P l.toArray (fun w'=> ∃x,w'=F x) (fun a'=> ∀w',(∃x,w'=F x)→Q .normal a' w') l a):(Code.region id l.toArray true).wp P Q a w:=
 wp_region_quiet (C:=fun w'=> ∃x,w'=F x) hm hB h1 (by simpa using h)
theorem calm (W:World): ∃(T:Type) (F:T→World),Nonempty T∧(∃x,W.drewN 1=F x)∧(∀x,Below W.heap.size W (F x))∧ ∀x w',Below (F x).heap.size (F x) w'→ ∃y,w'=F y:=
 ⟨{W' // Below W.heap.size W W'},Subtype.val,⟨⟨_,Below.refl _ _⟩⟩,⟨⟨_,below_drewN (Below.refl _ _) 1⟩,rfl⟩,fun x=>x.2,fun x w' hb=>⟨⟨w',x.2.trans (hb.mono x.2.size)⟩,rfl⟩⟩
end Go.Proofs.YtdajkddgnfgijaaGreatDoor
end
section
namespace Go.Proofs.YtdajkddgnfgijaaGreatDoor
open Go.RowKit
def Holds (W:World):List (Nat × Nat × Value)→Prop
 | []=>True
 | f ::r=>(f.1 < W.heap.size∧W.cell? ⟨f.1,f.2.1,none⟩=some f.2.2)∧Holds W r
theorem Holds.next {W W':World} (hb:Below W.heap.size W W'): ∀ {l:List (Nat × Nat × Value)},Holds W l→Holds W' l
 | [],_=>trivial
 | _ ::_,⟨⟨h1,h2⟩,h3⟩=>⟨⟨Nat.lt_of_lt_of_le h1 hb.size,(hb.cell h1).trans h2⟩,h3.next hb⟩
def Sit (w W:World) (fs:List (Nat × Nat × Value)):Prop:=Below w.heap.size w W∧Holds W fs
theorem Sit.start (w:World):Sit w w []:=⟨Below.refl _ _,trivial⟩
theorem Sit.next {w W W':World} {fs:List (Nat × Nat × Value)} (h:Sit w W fs) (hb:Below W.heap.size W W'):Sit w W' fs:=
 ⟨h.1.trans (hb.mono h.1.size),h.2.next hb⟩
theorem Sit.draws {w W:World} {fs:List (Nat × Nat × Value)} (h:Sit w W fs) (n:Nat):Sit w (W.drewN n) fs:=h.next (below_drewN (Below.refl _ _) n)
theorem aj (W:World) (o:Obj):Below W.heap.size W (W.alloc o):=(Below.refl _ _).alloc (Nat.le_refl _) _
theorem Sit.EA {w W:World} {fs:List (Nat × Nat × Value)} {n:Nat} (h:Sit w W fs) (hn:W.heap.size=n) (a b:Value) (t:TypeId):
 Sit w (W.alloc (.cells #[a,b] t)) ((n,0,a) ::(n,1,b) ::fs):=by
 subst hn
 exact ⟨(h.next (aj _ _)).1,⟨by simp,bZ W [a,b] t 0⟩,⟨by simp,bZ W [a,b] t 1⟩,(h.next (aj _ _)).2⟩
theorem Sit.CK {w W:World} {fs:List (Nat × Nat × Value)} {n:Nat} (h:Sit w W fs) (hn:W.heap.size=n) (a b c d:Value) (t:TypeId):
 Sit w (W.alloc (.cells #[a,b,c,d] t)) ((n,0,a) ::(n,1,b) ::(n,2,c) ::(n,3,d) ::fs):=by
 subst hn
 exact ⟨(h.next (aj _ _)).1,⟨by simp,bZ W [a,b,c,d] t 0⟩,⟨by simp,bZ W [a,b,c,d] t 1⟩,⟨by simp,bZ W [a,b,c,d] t 2⟩,⟨by simp,bZ W [a,b,c,d] t 3⟩,(h.next (aj _ _)).2⟩
theorem Sit.QN {w W:World} {fs:List (Nat × Nat × Value)} {n:Nat} (h:Sit w W fs) (hn:W.heap.size=n) (a b c d e f:Value) (t:TypeId):
 Sit w (W.alloc (.cells #[a,b,c,d,e,f] t)) ((n,0,a) ::(n,1,b) ::(n,2,c) ::(n,3,d) ::(n,4,e) ::(n,5,f) ::fs):=by
 subst hn
 exact ⟨(h.next (aj _ _)).1,⟨by simp,bZ W [a,b,c,d,e,f] t 0⟩,⟨by simp,bZ W [a,b,c,d,e,f] t 1⟩,⟨by simp,bZ W [a,b,c,d,e,f] t 2⟩,⟨by simp,bZ W [a,b,c,d,e,f] t 3⟩,⟨by simp,bZ W [a,b,c,d,e,f] t 4⟩,⟨by simp,bZ W [a,b,c,d,e,f] t 5⟩,(h.next (aj _ _)).2⟩
theorem Sit.lU {w W:World} {fs:List (Nat × Nat × Value)} {n:Nat} (hs:Sit w W fs) (hn:W.heap.size=n) (a b c d e f g h i j k:Value) (t:TypeId):
 Sit w (W.alloc (.cells #[a,b,c,d,e,f,g,h,i,j,k] t)) ((n,0,a) ::(n,1,b) ::(n,2,c) ::(n,3,d) ::(n,4,e) ::(n,5,f) ::(n,6,g) ::(n,7,h) ::(n,8,i) ::(n,9,j) ::(n,10,k) ::fs):=by
 subst hn
 exact ⟨(hs.next (aj _ _)).1,⟨by simp,bZ W [a,b,c,d,e,f,g,h,i,j,k] t 0⟩,⟨by simp,bZ W [a,b,c,d,e,f,g,h,i,j,k] t 1⟩,⟨by simp,bZ W [a,b,c,d,e,f,g,h,i,j,k] t 2⟩,⟨by simp,bZ W [a,b,c,d,e,f,g,h,i,j,k] t 3⟩,⟨by simp,bZ W [a,b,c,d,e,f,g,h,i,j,k] t 4⟩,⟨by simp,bZ W [a,b,c,d,e,f,g,h,i,j,k] t 5⟩,⟨by simp,bZ W [a,b,c,d,e,f,g,h,i,j,k] t 6⟩,⟨by simp,bZ W [a,b,c,d,e,f,g,h,i,j,k] t 7⟩,⟨by simp,bZ W [a,b,c,d,e,f,g,h,i,j,k] t 8⟩,⟨by simp,bZ W [a,b,c,d,e,f,g,h,i,j,k] t 9⟩,⟨by simp,bZ W [a,b,c,d,e,f,g,h,i,j,k] t 10⟩,(hs.next (aj _ _)).2⟩
namespace Md
structure De where
 kind:Int
 line:Int
 nm:ByteArray
 size:Int
 init:Int
 on:ByteArray
def De.Ok (d:De):Prop:=dR d.kind∧dR d.line∧d.nm.size≤maxLen∧dR d.size∧dR d.init∧d.on.size≤maxLen
structure aX where
 op:Int
 line:Int
 nm:ByteArray
 arg:ByteArray
 idx:bL
 dN:Int
 xn:Int
 dM:ByteArray
 aR:bL
inductive aP where
 | nil
 | cons (h:aX) (body els rest:aP)
def aP.len:aP→Nat
 | .nil=>0
 | .cons _ _ _ r=>r.len + 1
def aP.All (Q:aX→aP→aP→Prop):aP→Prop
 | .nil=>True
 | .cons h b e r=>Q h b e∧r.All Q
theorem aP.lG {Q:aX→aP→aP→Prop} (step: ∀h b e,b.All Q→e.All Q→Q h b e): ∀l:aP,l.All Q
 | .nil=>trivial
 | .cons h b e r=>⟨step h b e (lG step b) (lG step e),lG step r⟩
theorem aP.Br {Q:aX→aP→aP→Prop} (step: ∀h b e,b.All Q→e.All Q→Q h b e) (h:aX) (b e:aP):Q h b e:=
 step h b e (aP.lG step b) (aP.lG step e)
structure Th where
 nm:ByteArray
 line:Int
 cZ:List ByteArray
 body:aP
def gB (w:World) (B:Nat):List ByteArray→Option Addr→Nat→Prop
 | [],_,_=>True
 | s ::r,ao,k=>(∃b off,ao=some ⟨b,off,none⟩∧b < B∧w.cell? ⟨b,off + k,none⟩=some (.string s)∧s.size≤maxLen)∧gB w B r ao (k + 1)
def ig (w:World) (B:Nat):List De→Option Addr→Nat→Prop
 | [],_,_=>True
 | d ::r,ao,k=>(∃b off,ao=some ⟨b,off,none⟩∧b < B∧w.cell? ⟨b,off + k * 6,none⟩=some (.int .i64 d.kind)∧w.cell? ⟨b,off + k * 6 + 1,none⟩=some (.int .i64 d.line)∧
     w.cell? ⟨b,off + k * 6 + 2,none⟩=some (.string d.nm)∧w.cell? ⟨b,off + k * 6 + 3,none⟩=some (.int .i64 d.size)∧w.cell? ⟨b,off + k * 6 + 4,none⟩=some (.int .i64 d.init)∧
     w.cell? ⟨b,off + k * 6 + 5,none⟩=some (.string d.on)∧d.Ok)∧ig w B r ao (k + 1)
def sj (h:aX) (body els:aP):Prop:=
 dR h.op∧dR h.line∧h.nm.size≤maxLen∧h.arg.size≤maxLen∧h.idx.len≤maxLen∧uK h.dN h.xn h.dM h.aR∧body.len≤maxLen∧els.len≤maxLen
def aP.At (w:World) (B:Nat):aP→Option Addr→Nat→Prop
 | .nil,_,_=>True
 | .cons h body els rest,ao,k=>
   (∃b off dZ dG dH bR bV bC eB dK,ao=some ⟨b,off,none⟩∧b < B∧w.cell? ⟨b,off + k * 11,none⟩=some (.int .i64 h.op)∧w.cell? ⟨b,off + k * 11 + 1,none⟩=some (.int .i64 h.line)∧
    w.cell? ⟨b,off + k * 11 + 2,none⟩=some (.string h.nm)∧w.cell? ⟨b,off + k * 11 + 3,none⟩=some (.string h.arg)∧w.cell? ⟨b,off + k * 11 + 4,none⟩=some (.slice dZ h.idx.len dG)∧
    w.cell? ⟨b,off + k * 11 + 5,none⟩=some (.int .i64 h.dN)∧w.cell? ⟨b,off + k * 11 + 6,none⟩=some (.int .i64 h.xn)∧w.cell? ⟨b,off + k * 11 + 7,none⟩=some (.string h.dM)∧w.cell? ⟨b,off + k * 11 + 8,none⟩=some (.slice dH h.aR.len bR)∧
    w.cell? ⟨b,off + k * 11 + 9,none⟩=some (.slice bV body.len bC)∧w.cell? ⟨b,off + k * 11 + 10,none⟩=some (.slice eB els.len dK)∧sj h body els∧
    h.idx.At w B dZ 0∧h.aR.At w B dH 0∧body.At w B bV 0∧els.At w B eB 0)∧rest.At w B ao (k + 1)
def Th.Ok (t:Th):Prop:=t.nm.size≤maxLen∧dR t.line∧t.cZ.length≤maxLen∧t.body.len≤maxLen
def gJ (w:World) (B:Nat):List Th→Option Addr→Nat→Prop
 | [],_,_=>True
 | t ::r,ao,k=>(∃b off fF dW bV bC,ao=some ⟨b,off,none⟩∧b < B∧w.cell? ⟨b,off + k * 4,none⟩=some (.string t.nm)∧w.cell? ⟨b,off + k * 4 + 1,none⟩=some (.int .i64 t.line)∧
     w.cell? ⟨b,off + k * 4 + 2,none⟩=some (.slice fF t.cZ.length dW)∧w.cell? ⟨b,off + k * 4 + 3,none⟩=some (.slice bV t.body.len bC)∧t.Ok∧gB w B t.cZ fF 0∧t.body.At w B bV 0∧t.cZ.length≤dW)∧gJ w B r ao (k + 1)
section
variable {w w':World} {B B':Nat}
theorem gB.below (hb:Below B w w'): ∀ {l:List ByteArray} {ao:Option Addr} {k:Nat},gB w B l ao k→gB w' B l ao k
 | [],_,_,_=>trivial
 | _ ::_,_,_,⟨⟨b,off,e,hB,c,hs⟩,hr⟩=>⟨⟨b,off,e,hB,(hb.cell hB).trans c,hs⟩,gB.below hb hr⟩
theorem gB.mono (h:B≤B'): ∀ {l:List ByteArray} {ao:Option Addr} {k:Nat},gB w B l ao k→gB w B' l ao k
 | [],_,_,_=>trivial
 | _ ::_,_,_,⟨⟨b,off,e,hB,c,hs⟩,hr⟩=>⟨⟨b,off,e,Nat.lt_of_lt_of_le hB h,c,hs⟩,gB.mono h hr⟩
theorem gB.same {l:List ByteArray} {ao:Option Addr} {k:Nat} (h:gB w w.heap.size l ao k) (hb:Below w.heap.size w w'):gB w' w'.heap.size l ao k:=(h.below hb).mono hb.size
theorem gB.drop: ∀ {l:List ByteArray} {ao:Option Addr} {k:Nat} (i:Nat),gB w B l ao k→gB w B (l.drop i) ao (k + i)
 | _,_,_,0,h=>h
 | [],_,_,_ + 1,_=>by simp [gB]
 | _ ::_,_,k,i + 1,⟨_,hr⟩=>by have:=gB.drop i hr; rw [List.drop_succ_cons]; rwa [Nat.add_assoc,Nat.add_comm 1 i] at this
theorem ig.below (hb:Below B w w'): ∀ {l:List De} {ao:Option Addr} {k:Nat},ig w B l ao k→ig w' B l ao k
 | [],_,_,_=>trivial
 | _ ::_,_,_,⟨⟨b,off,e,hB,c0,c1,c2,c3,c4,c5,hs⟩,hr⟩=>⟨⟨b,off,e,hB,(hb.cell hB).trans c0,(hb.cell hB).trans c1,(hb.cell hB).trans c2,(hb.cell hB).trans c3,(hb.cell hB).trans c4,(hb.cell hB).trans c5,hs⟩,ig.below hb hr⟩
theorem ig.mono (h:B≤B'): ∀ {l:List De} {ao:Option Addr} {k:Nat},ig w B l ao k→ig w B' l ao k
 | [],_,_,_=>trivial
 | _ ::_,_,_,⟨⟨b,off,e,hB,c⟩,hr⟩=>⟨⟨b,off,e,Nat.lt_of_lt_of_le hB h,c⟩,ig.mono h hr⟩
theorem ig.same {l:List De} {ao:Option Addr} {k:Nat} (h:ig w w.heap.size l ao k) (hb:Below w.heap.size w w'):ig w' w'.heap.size l ao k:=(h.below hb).mono hb.size
theorem ig.drop: ∀ {l:List De} {ao:Option Addr} {k:Nat} (i:Nat),ig w B l ao k→ig w B (l.drop i) ao (k + i)
 | _,_,_,0,h=>h
 | [],_,_,_ + 1,_=>by simp [ig]
 | _ ::_,_,k,i + 1,⟨_,hr⟩=>by have:=ig.drop i hr; rw [List.drop_succ_cons]; rwa [Nat.add_assoc,Nat.add_comm 1 i] at this
theorem gB.take: ∀ {pre R:List ByteArray} {ao:Option Addr} {k:Nat},gB w B (pre++R) ao k→gB w B pre ao k
 | [],_,_,_,_=>trivial
 | _ ::_,_,_,_,h=>⟨h.1,gB.take h.2⟩
theorem ig.take: ∀ {pre R:List De} {ao:Option Addr} {k:Nat},ig w B (pre++R) ao k→ig w B pre ao k
 | [],_,_,_,_=>trivial
 | _ ::_,_,_,_,h=>⟨h.1,ig.take h.2⟩
theorem aP.At.below (hb:Below B w w'): ∀ {l:aP} {ao:Option Addr} {k:Nat},l.At w B ao k→l.At w' B ao k
 | .nil,_,_,_=>trivial
 | .cons _ _ _ _,_,_,h=>by
   obtain ⟨⟨b,off,dZ,dG,dH,bR,bV,bC,eB,dK,e,hB,c0,c1,c2,c3,c4,c5,c6,c7,c8,c9,c10,hok,h1,h2,h3,h4⟩,hr⟩:=h
   exact ⟨⟨b,off,dZ,dG,dH,bR,bV,bC,eB,dK,e,hB,(hb.cell hB).trans c0,(hb.cell hB).trans c1,(hb.cell hB).trans c2,(hb.cell hB).trans c3,(hb.cell hB).trans c4,(hb.cell hB).trans c5,(hb.cell hB).trans c6,(hb.cell hB).trans c7,(hb.cell hB).trans c8,(hb.cell hB).trans c9,(hb.cell hB).trans c10,hok,h1.below hb,h2.below hb,h3.below hb,h4.below hb⟩,hr.below hb⟩
theorem aP.At.mono (h:B≤B'): ∀ {l:aP} {ao:Option Addr} {k:Nat},l.At w B ao k→l.At w B' ao k
 | .nil,_,_,_=>trivial
 | .cons _ _ _ _,_,_,h'=>by
   obtain ⟨⟨b,off,dZ,dG,dH,bR,bV,bC,eB,dK,e,hB,c0,c1,c2,c3,c4,c5,c6,c7,c8,c9,c10,hok,h1,h2,h3,h4⟩,hr⟩:=h'
   exact ⟨⟨b,off,dZ,dG,dH,bR,bV,bC,eB,dK,e,Nat.lt_of_lt_of_le hB h,c0,c1,c2,c3,c4,c5,c6,c7,c8,c9,c10,hok,h1.mono h,h2.mono h,h3.mono h,h4.mono h⟩,hr.mono h⟩
theorem aP.At.same {l:aP} {ao:Option Addr} {k:Nat} (h:l.At w w.heap.size ao k) (hb:Below w.heap.size w w'):l.At w' w'.heap.size ao k:=(h.below hb).mono hb.size
theorem gJ.below (hb:Below B w w'): ∀ {l:List Th} {ao:Option Addr} {k:Nat},gJ w B l ao k→gJ w' B l ao k
 | [],_,_,_=>trivial
 | _ ::_,_,_,⟨⟨b,off,fF,dW,bV,bC,e,hB,c0,c1,c2,c3,hs,ht,hst⟩,hr⟩=>⟨⟨b,off,fF,dW,bV,bC,e,hB,(hb.cell hB).trans c0,(hb.cell hB).trans c1,(hb.cell hB).trans c2,(hb.cell hB).trans c3,hs,ht.below hb,hst.1.below hb,hst.2⟩,gJ.below hb hr⟩
theorem gJ.mono (h:B≤B'): ∀ {l:List Th} {ao:Option Addr} {k:Nat},gJ w B l ao k→gJ w B' l ao k
 | [],_,_,_=>trivial
 | _ ::_,_,_,⟨⟨b,off,fF,dW,bV,bC,e,hB,c0,c1,c2,c3,hs,ht,hst⟩,hr⟩=>⟨⟨b,off,fF,dW,bV,bC,e,Nat.lt_of_lt_of_le hB h,c0,c1,c2,c3,hs,ht.mono h,hst.1.mono h,hst.2⟩,gJ.mono h hr⟩
theorem gJ.same {l:List Th} {ao:Option Addr} {k:Nat} (h:gJ w w.heap.size l ao k) (hb:Below w.heap.size w w'):gJ w' w'.heap.size l ao k:=(h.below hb).mono hb.size
theorem gJ.drop: ∀ {l:List Th} {ao:Option Addr} {k:Nat} (i:Nat),gJ w B l ao k→gJ w B (l.drop i) ao (k + i)
 | _,_,_,0,h=>h
 | [],_,_,_ + 1,_=>by simp [gJ]
 | _ ::_,_,k,i + 1,⟨_,hr⟩=>by have:=gJ.drop i hr; rw [List.drop_succ_cons]; rwa [Nat.add_assoc,Nat.add_comm 1 i] at this
theorem gJ.take: ∀ {pre R:List Th} {ao:Option Addr} {k:Nat},gJ w B (pre++R) ao k→gJ w B pre ao k
 | [],_,_,_,_=>trivial
 | _ ::_,_,_,_,h=>⟨h.1,gJ.take h.2⟩
end
structure Pr where
 ds:List De
 ts:List Th
def Pr.At (w:World) (p:Pr) (aK aM:Option Addr):Prop:=p.ds.length≤maxLen∧p.ts.length≤maxLen∧ig w w.heap.size p.ds aK 0∧gJ w w.heap.size p.ts aM 0
theorem Pr.At.same {w w':World} {p:Pr} {aK aM:Option Addr} (h:p.At w aK aM) (hb:Below w.heap.size w w'):p.At w' aK aM:=⟨h.1,h.2.1,h.2.2.1.same hb,h.2.2.2.same hb⟩
def fG (d:De):Int:=
 if d.kind == 1 then (if d.size == 0 then 2 else 3) else if d.kind == 2 then 2 else if d.kind == 3 then 4 else if d.kind == 4 then 5 else if d.kind == 5 then 6 else if d.kind == 6 then 7 else 9
def qd (ds:List De) (nm:ByteArray):Option Int:=(ds.find? fun d=>d.nm.toList == nm.toList).map fG
def qE (ts:List Th) (nm:ByteArray):Int:=if ts.any fun t=>t.nm.toList == nm.toList then 8 else 0
def yC (ts:List Th) (i:Int):List ByteArray:=if 0≤i then ((ts[i.toNat]?).map (·.cZ)).getD [] else []
def wY (l:List ByteArray) (nm:ByteArray):Bool:=l.any fun s=>s.toList == nm.toList
def mean (p:Pr) (i:Int) (nm:ByteArray):Int:=if wY (yC p.ts i) nm then 1 else (qd p.ds nm).getD (qE p.ts nm)
end Md
end Go.Proofs.YtdajkddgnfgijaaGreatDoor
end
section
namespace Go.Proofs.YtdajkddgnfgijaaGreatDoor
open Go.RowKit
namespace Md
def fN (op:Int):Bool:=(op == 1 || (decide (4≤op) && decide (op≤6))) || (decide (9≤op) && decide (op≤15))
def fA (op:Int):Bool:=op == 15
def fI (op:Int):Bool:=op == 1
def fX (op:Int):Bool:=(op == 1 || op == 2) || (op == 3 || op == 14)
def fB (op:Int):Bool:=decide (2≤op) && decide (op≤8)
def fE (op:Int):Bool:=op == 2
def fO (op:Int):Bool:=decide (1≤op) && decide (op≤15)
def tV (op n:Int) (nm:ByteArray) (len:Nat):Bool:=((op == 0 && n == 0) && nm.toList.isEmpty) && len == 0
def kF (d:De):Bool:=(((decide (1≤d.kind) && decide (d.kind≤6)) && Tk.kT d.nm.data.toList) && (decide (0≤d.size) && (d.size == 0 || d.kind == 1))) && (((d.init != -9223372036854775808) && (d.init == 0 || (d.kind == 1 || d.kind == 2))) && oD d.on (d.kind == 5))
def oK (h:aX) (bl el:Nat):Bool:=
 ((fO h.op && (oD h.nm (fN h.op) && oD h.arg (fA h.op))) && ((decide (h.idx.len≤1) && (!(h.idx.len == 1) || fI h.op)) && mO h.idx)) &&
   ((if fX h.op then jl h.dN h.xn h.dM h.aR else tV h.dN h.xn h.dM h.aR.len) && ((fB h.op || bl == 0) && (fE h.op || el == 0)))
def iy:aP→Bool
 | .nil=>true
 | .cons h b e r=>(oK h b.len e.len && (iy b && iy e)) && iy r
def ER (h:aX) (b e:aP):Bool:=oK h b.len e.len && (iy b && iy e)
theorem Du (h:aX) (b e r:aP):iy (.cons h b e r)=(ER h b e && iy r):=rfl
def sW (t:Th):Bool:=(Tk.kT t.nm.data.toList && t.cZ.all fun s=>Tk.kT s.data.toList) && iy t.body
def tq (p:Pr):Bool:=(p.ds.all kF && p.ts.all sW) && decide ((0:Int) < p.ts.length)
end Md
open Md
namespace Md
structure Sl where
 dZ:Option Addr
 dG:Nat
 dH:Option Addr
 bR:Nat
 bV:Option Addr
 bC:Nat
 eB:Option Addr
 dK:Nat
def cO (h:aX) (b e:aP) (s:Sl):Value:= .agg #[.int .i64 h.op,.int .i64 h.line,.string h.nm,.string h.arg,.slice s.dZ h.idx.len s.dG,.int .i64 h.dN,.int .i64 h.xn,.string h.dM,.slice s.dH h.aR.len s.bR,.slice s.bV b.len s.bC,.slice s.eB e.len s.dK]
def ow (n:Nat) (h:aX) (b e:aP) (s:Sl) (fs:List (Nat × Nat × Value)):List (Nat × Nat × Value):=
 (n,0,.int .i64 h.op) ::(n,1,.int .i64 h.line) ::(n,2,.string h.nm) ::(n,3,.string h.arg) ::(n,4,.slice s.dZ h.idx.len s.dG) ::(n,5,.int .i64 h.dN) ::(n,6,.int .i64 h.xn) ::(n,7,.string h.dM) ::(n,8,.slice s.dH h.aR.len s.bR) ::(n,9,.slice s.bV b.len s.bC) ::(n,10,.slice s.eB e.len s.dK) ::fs
def pK (w:World) (h:aX) (b e:aP) (s:Sl):Prop:=sj h b e∧h.idx.At w w.heap.size s.dZ 0∧h.aR.At w w.heap.size s.dH 0∧b.At w w.heap.size s.bV 0∧e.At w w.heap.size s.eB 0
theorem pK.same {w w':World} {h:aX} {b e:aP} {s:Sl} (hi:pK w h b e s) (hb:Below w.heap.size w w'):pK w' h b e s:=
 ⟨hi.1,hi.2.1.same hb,hi.2.2.1.same hb,hi.2.2.2.1.same hb,hi.2.2.2.2.same hb⟩
theorem aP.At.head {w:World} {h:aX} {b e r:aP} {ao:Option Addr} {k:Nat} (hat:(aP.cons h b e r).At w w.heap.size ao k): ∃bl off s,ao=some ⟨bl,off,none⟩∧bl < w.heap.size∧pK w h b e s∧
 w.cell? ⟨bl,off + k * 11,none⟩=some (.int .i64 h.op)∧w.cell? ⟨bl,off + k * 11 + 1,none⟩=some (.int .i64 h.line)∧w.cell? ⟨bl,off + k * 11 + 2,none⟩=some (.string h.nm)∧w.cell? ⟨bl,off + k * 11 + 3,none⟩=some (.string h.arg)∧w.cell? ⟨bl,off + k * 11 + 4,none⟩=some (.slice s.dZ h.idx.len s.dG)∧
 w.cell? ⟨bl,off + k * 11 + 5,none⟩=some (.int .i64 h.dN)∧w.cell? ⟨bl,off + k * 11 + 6,none⟩=some (.int .i64 h.xn)∧w.cell? ⟨bl,off + k * 11 + 7,none⟩=some (.string h.dM)∧w.cell? ⟨bl,off + k * 11 + 8,none⟩=some (.slice s.dH h.aR.len s.bR)∧
 w.cell? ⟨bl,off + k * 11 + 9,none⟩=some (.slice s.bV b.len s.bC)∧w.cell? ⟨bl,off + k * 11 + 10,none⟩=some (.slice s.eB e.len s.dK)∧r.At w w.heap.size ao (k + 1):=by
 obtain ⟨⟨b,off,dZ,dG,dH,bR,bV,bC,eB,dK,e,hB,c0,c1,c2,c3,c4,c5,c6,c7,c8,c9,c10,hok,h1,h2,h3,h4⟩,hr⟩:=hat
 exact ⟨b,off,⟨dZ,dG,dH,bR,bV,bC,eB,dK⟩,e,hB,⟨hok,h1,h2,h3,h4⟩,c0,c1,c2,c3,c4,c5,c6,c7,c8,c9,c10,hr⟩
end Md
theorem Tz (n:Nat):decide ((n:Int)≤1)=decide (n≤1):=by rw [decide_eq_decide]; omega
theorem SX (n:Nat):decide ((n:Int)=1)=(n == 1):=by rw [Bool.eq_iff_iff,decide_eq_true_iff,beq_iff_eq]; omega
theorem K6 (n:Nat):decide ((n:Int)≤0)=(n == 0):=by rw [Bool.eq_iff_iff,decide_eq_true_iff,beq_iff_eq]; omega
end Go.Proofs.YtdajkddgnfgijaaGreatDoor
end
