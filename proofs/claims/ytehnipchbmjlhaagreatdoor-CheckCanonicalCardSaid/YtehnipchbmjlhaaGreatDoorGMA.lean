/-
  Expressions as data, and what it is that a row of them lies in memory. No program in sight.
  Regions that draw their order and only read; callees there may make memory.
  Programs as data, and what it is that they lie in memory. No program text in sight.
  What it is that a program is shaped, and statements as values. No program text in sight.
-/
import Derived.Test.YtehnipchbmjlhaaGreatDoorGTA
import Derived.WalkSmall
import Derived.Deep.QuietTactic
import Derived.BigQuiet
import Derived.Deep.DeepCutAuto
set_option linter.unusedSimpArgs false
set_option linter.unusedVariables false
set_option maxHeartbeats 40000000
set_option maxRecDepth 1000000
section
namespace Go.Proofs.YtehnipchbmjlhaaGreatDoor
open Go.RowKit
theorem bV (w:World) (cs:List Value) (t:TypeId) (j:Nat):(w.alloc (.cells cs.toArray t)).cell? ⟨w.heap.size,j,none⟩=cs[j]?:=O9 w cs t j
def rT (w W:World) (a b c d:Value):Prop:=
 Below w.heap.size w W∧w.heap.size < W.heap.size∧W.cell? ⟨w.heap.size,0,none⟩=some a∧W.cell? ⟨w.heap.size,1,none⟩=some b∧W.cell? ⟨w.heap.size,2,none⟩=some c∧W.cell? ⟨w.heap.size,3,none⟩=some d
theorem rT.mk {w W:World} {a b c d:Value} {t:TypeId} (h:w.alloc (.cells #[a,b,c,d] t)=W):rT w W a b c d:=by
 subst h
 exact ⟨(Below.refl _ _).alloc (Nat.le_refl _) _,by simp,bV w [a,b,c,d] t 0,bV w [a,b,c,d] t 1,bV w [a,b,c,d] t 2,bV w [a,b,c,d] t 3⟩
theorem rT.next {w W W':World} {a b c d:Value} (h:rT w W a b c d) (hb:Below W.heap.size W W'):rT w W' a b c d:=by
 obtain ⟨h0,hs,c0,c1,c2,c3⟩:=h
 exact ⟨h0.trans (hb.mono h0.size),Nat.lt_of_lt_of_le hs hb.size,(hb.cell hs).trans c0,(hb.cell hs).trans c1,(hb.cell hs).trans c2,(hb.cell hs).trans c3⟩
theorem rT.draws {w W:World} {a b c d:Value} (h:rT w W a b c d) (n:Nat):rT w (W.drewN n) a b c d:=h.next (below_drewN (Below.refl _ _) n)
namespace Md
def aU (n:Int):Prop:= -9223372036854775808≤n∧n≤9223372036854775807
inductive aP where
 | nil
 | cons (op n:Int) (nm:ByteArray) (kids rest:aP)
def aP.len:aP→Nat
 | .nil=>0
 | .cons _ _ _ _ r=>r.len + 1
def oz (op n:Int) (nm:ByteArray) (kids:aP):Prop:=aU op∧aU n∧nm.size≤maxLen∧kids.len≤maxLen
def aP.At (w:World) (B:Nat):aP→Option Addr→Nat→Prop
 | .nil,_,_=>True
 | .cons op n nm kids rest,ao,k=>
   (∃b off gQ cap,ao=some ⟨b,off,none⟩∧b < B∧w.cell? ⟨b,off + k * 4,none⟩=some (.int .i64 op)∧w.cell? ⟨b,off + k * 4 + 1,none⟩=some (.int .i64 n)∧
    w.cell? ⟨b,off + k * 4 + 2,none⟩=some (.string nm)∧w.cell? ⟨b,off + k * 4 + 3,none⟩=some (.slice gQ kids.len cap)∧oz op n nm kids∧kids.At w B gQ 0)∧
   rest.At w B ao (k + 1)
theorem aP.At.below {w w':World} {B:Nat} (hb:Below B w w'): ∀ {l:aP} {ao:Option Addr} {k:Nat},l.At w B ao k→l.At w' B ao k
 | .nil,_,_,_=>trivial
 | .cons _ _ _ _ _,_,_,h=>by
   obtain ⟨⟨b,off,gQ,cap,e,hB,c0,c1,c2,c3,hok,hk⟩,hr⟩:=h
   exact ⟨⟨b,off,gQ,cap,e,hB,(hb.cell hB).trans c0,(hb.cell hB).trans c1,(hb.cell hB).trans c2,(hb.cell hB).trans c3,hok,hk.below hb⟩,hr.below hb⟩
theorem aP.At.mono {w:World} {B B':Nat} (hB':B≤B'): ∀ {l:aP} {ao:Option Addr} {k:Nat},l.At w B ao k→l.At w B' ao k
 | .nil,_,_,_=>trivial
 | .cons _ _ _ _ _,_,_,h=>by
   obtain ⟨⟨b,off,gQ,cap,e,hB,c0,c1,c2,c3,hok,hk⟩,hr⟩:=h
   exact ⟨⟨b,off,gQ,cap,e,Nat.lt_of_lt_of_le hB hB',c0,c1,c2,c3,hok,hk.mono hB'⟩,hr.mono hB'⟩
theorem aP.At.same {w w':World} {l:aP} {ao:Option Addr} {k:Nat} (h:l.At w w.heap.size ao k) (hb:Below w.heap.size w w'):l.At w' w'.heap.size ao k:=
 (h.below hb).mono hb.size
def aP.All (Q:Int→Int→ByteArray→aP→Prop):aP→Prop
 | .nil=>True
 | .cons op n nm kids rest=>Q op n nm kids∧rest.All Q
theorem aP.oo {Q:Int→Int→ByteArray→aP→Prop} (step: ∀op n nm kids,kids.All Q→Q op n nm kids): ∀l:aP,l.All Q
 | .nil=>trivial
 | .cons op n nm kids rest=>⟨step op n nm kids (oo step kids),oo step rest⟩
theorem aP.xP {Q:Int→Int→ByteArray→aP→Prop} (step: ∀op n nm kids,kids.All Q→Q op n nm kids) (op n:Int) (nm:ByteArray) (kids:aP):Q op n nm kids:=
 step op n nm kids (aP.oo step kids)
def opsOf (op:Int):Int:=if op == 1 || op == 2 then 0 else if op == 3 || op == 4 || op == 5 then 1 else if decide (6≤op) && decide (op≤18) then 2 else -1
def named (op:Int):Bool:=op == 2 || op == 3
def iU (nm:ByteArray) (b:Bool):Bool:=if b then Tk.dZ nm.data.toList else nm.data.toList.isEmpty
def uO (op n:Int) (nm:ByteArray) (len:Nat):Bool:=((len:Int) == opsOf op) && (!(decide (n < 0) || (!(n == 0) && !(op == 1))) && iU nm (named op))
def iy:aP→Bool
 | .nil=>true
 | .cons op n nm kids rest=>(uO op n nm kids.len && iy kids) && iy rest
def dS (op n:Int) (nm:ByteArray) (kids:aP):Bool:=uO op n nm kids.len && iy kids
end Md
end Go.Proofs.YtehnipchbmjlhaaGreatDoor
end
section
namespace Go.Proofs.YtehnipchbmjlhaaGreatDoor
open Go.RowKit
open Md
theorem yD {P:Program} {f:FuncId} {args:Array Value} {w:World} {n:Nat} {v:Value} (h:Calls P f args (w.drewN n) fun e w'=>e= .returned v∧w.drewN n=w'):
 Calls P f args (w.drewN n) fun e w''=>e= .returned v∧ ∃m,w''=w.drewN m:=h.mono fun _ _ ⟨he,hm⟩=>⟨he,n,hm.symm⟩
theorem iZ {P:Program} {id:Nat} {Q:Exit→Act→World→Prop} {a:Act} {w:World} {l:List Oper} {T:Type} (F:T→World) (hm:P.follows .mixedOrders=true) (hB:Region.lexB .any l.toArray=true)
 (h1: ∃x,w.drewN 1=F x) (h:wpQuiet P l.toArray (fun w'=> ∃x,w'=F x) (fun a'=> ∀w',(∃x,w'=F x)→Q .normal a' w') l a):(Code.region id l.toArray true).wp P Q a w:=
 wp_region_quiet (C:=fun w'=> ∃x,w'=F x) hm hB h1 (by simpa using h)
theorem calm (W:World): ∃(T:Type) (F:T→World),Nonempty T∧(∃x,W.drewN 1=F x)∧(∀x,Below W.heap.size W (F x))∧ ∀x w',Below (F x).heap.size (F x) w'→ ∃y,w'=F y:=
 ⟨{W' // Below W.heap.size W W'},Subtype.val,⟨⟨_,Below.refl _ _⟩⟩,⟨⟨_,below_drewN (Below.refl _ _) 1⟩,rfl⟩,fun x=>x.2,fun x w' hb=>⟨⟨w',x.2.trans (hb.mono x.2.size)⟩,rfl⟩⟩
end Go.Proofs.YtehnipchbmjlhaaGreatDoor
end
section
namespace Go.Proofs.YtehnipchbmjlhaaGreatDoor
open Go.RowKit
def Holds (W:World):List (Nat × Nat × Value)→Prop
 | []=>True
 | f ::r=>(f.1 < W.heap.size∧W.cell? ⟨f.1,f.2.1,none⟩=some f.2.2)∧Holds W r
theorem Holds.next {W W':World} (hb:Below W.heap.size W W'): ∀ {l:List (Nat × Nat × Value)},Holds W l→Holds W' l
 | [],_=>trivial
 | _ ::_,⟨⟨h1,h2⟩,h3⟩=>⟨⟨Nat.lt_of_lt_of_le h1 hb.size,(hb.cell h1).trans h2⟩,h3.next hb⟩
def Sit (w W:World) (fs:List (Nat × Nat × Value)):Prop:=Below w.heap.size w W∧Holds W fs
theorem Sit.start (w:World):Sit w w []:=⟨Below.refl _ _,trivial⟩
theorem Sit.next {w W W':World} {fs:List (Nat × Nat × Value)} (h:Sit w W fs) (hb:Below W.heap.size W W'):Sit w W' fs:=
 ⟨h.1.trans (hb.mono h.1.size),h.2.next hb⟩
theorem ah (W:World) (o:Obj):Below W.heap.size W (W.alloc o):=(Below.refl _ _).alloc (Nat.le_refl _) _
theorem Sit.zf {w W:World} {fs:List (Nat × Nat × Value)} {n:Nat} (h:Sit w W fs) (hn:W.heap.size=n) (a b:Value) (t:TypeId):
 Sit w (W.alloc (.cells #[a,b] t)) ((n,0,a) ::(n,1,b) ::fs):=by
 subst hn
 exact ⟨(h.next (ah _ _)).1,⟨by simp,bV W [a,b] t 0⟩,⟨by simp,bV W [a,b] t 1⟩,(h.next (ah _ _)).2⟩
theorem Sit.qU {w W:World} {fs:List (Nat × Nat × Value)} {n:Nat} (h:Sit w W fs) (hn:W.heap.size=n) (a b c d:Value) (t:TypeId):
 Sit w (W.alloc (.cells #[a,b,c,d] t)) ((n,0,a) ::(n,1,b) ::(n,2,c) ::(n,3,d) ::fs):=by
 subst hn
 exact ⟨(h.next (ah _ _)).1,⟨by simp,bV W [a,b,c,d] t 0⟩,⟨by simp,bV W [a,b,c,d] t 1⟩,⟨by simp,bV W [a,b,c,d] t 2⟩,⟨by simp,bV W [a,b,c,d] t 3⟩,(h.next (ah _ _)).2⟩
theorem Sit.yV {w W:World} {fs:List (Nat × Nat × Value)} {n:Nat} (h:Sit w W fs) (hn:W.heap.size=n) (a b c d e f:Value) (t:TypeId):
 Sit w (W.alloc (.cells #[a,b,c,d,e,f] t)) ((n,0,a) ::(n,1,b) ::(n,2,c) ::(n,3,d) ::(n,4,e) ::(n,5,f) ::fs):=by
 subst hn
 exact ⟨(h.next (ah _ _)).1,⟨by simp,bV W [a,b,c,d,e,f] t 0⟩,⟨by simp,bV W [a,b,c,d,e,f] t 1⟩,⟨by simp,bV W [a,b,c,d,e,f] t 2⟩,⟨by simp,bV W [a,b,c,d,e,f] t 3⟩,⟨by simp,bV W [a,b,c,d,e,f] t 4⟩,⟨by simp,bV W [a,b,c,d,e,f] t 5⟩,(h.next (ah _ _)).2⟩
theorem Sit.gF {w W:World} {fs:List (Nat × Nat × Value)} {n:Nat} (hs:Sit w W fs) (hn:W.heap.size=n) (a b c d e f g h i j k:Value) (t:TypeId):
 Sit w (W.alloc (.cells #[a,b,c,d,e,f,g,h,i,j,k] t)) ((n,0,a) ::(n,1,b) ::(n,2,c) ::(n,3,d) ::(n,4,e) ::(n,5,f) ::(n,6,g) ::(n,7,h) ::(n,8,i) ::(n,9,j) ::(n,10,k) ::fs):=by
 subst hn
 exact ⟨(hs.next (ah _ _)).1,⟨by simp,bV W [a,b,c,d,e,f,g,h,i,j,k] t 0⟩,⟨by simp,bV W [a,b,c,d,e,f,g,h,i,j,k] t 1⟩,⟨by simp,bV W [a,b,c,d,e,f,g,h,i,j,k] t 2⟩,⟨by simp,bV W [a,b,c,d,e,f,g,h,i,j,k] t 3⟩,⟨by simp,bV W [a,b,c,d,e,f,g,h,i,j,k] t 4⟩,⟨by simp,bV W [a,b,c,d,e,f,g,h,i,j,k] t 5⟩,⟨by simp,bV W [a,b,c,d,e,f,g,h,i,j,k] t 6⟩,⟨by simp,bV W [a,b,c,d,e,f,g,h,i,j,k] t 7⟩,⟨by simp,bV W [a,b,c,d,e,f,g,h,i,j,k] t 8⟩,⟨by simp,bV W [a,b,c,d,e,f,g,h,i,j,k] t 9⟩,⟨by simp,bV W [a,b,c,d,e,f,g,h,i,j,k] t 10⟩,(hs.next (ah _ _)).2⟩
namespace Md
structure De where
 kind:Int
 line:Int
 nm:ByteArray
 size:Int
 init:Int
 on:ByteArray
def De.Ok (d:De):Prop:=aU d.kind∧aU d.line∧d.nm.size≤maxLen∧aU d.size∧aU d.init∧d.on.size≤maxLen
structure aV where
 op:Int
 line:Int
 nm:ByteArray
 arg:ByteArray
 idx:aP
 bD:Int
 xn:Int
 bC:ByteArray
 aL:aP
inductive aN where
 | nil
 | cons (h:aV) (body els rest:aN)
def aN.len:aN→Nat
 | .nil=>0
 | .cons _ _ _ r=>r.len + 1
def aN.All (Q:aV→aN→aN→Prop):aN→Prop
 | .nil=>True
 | .cons h b e r=>Q h b e∧r.All Q
theorem aN.oo {Q:aV→aN→aN→Prop} (step: ∀h b e,b.All Q→e.All Q→Q h b e): ∀l:aN,l.All Q
 | .nil=>trivial
 | .cons h b e r=>⟨step h b e (oo step b) (oo step e),oo step r⟩
structure Th where
 nm:ByteArray
 line:Int
 bH:List ByteArray
 body:aN
def iX (w:World) (B:Nat):List ByteArray→Option Addr→Nat→Prop
 | [],_,_=>True
 | s ::r,ao,k=>(∃b off,ao=some ⟨b,off,none⟩∧b < B∧w.cell? ⟨b,off + k,none⟩=some (.string s)∧s.size≤maxLen)∧iX w B r ao (k + 1)
def iL (w:World) (B:Nat):List De→Option Addr→Nat→Prop
 | [],_,_=>True
 | d ::r,ao,k=>(∃b off,ao=some ⟨b,off,none⟩∧b < B∧w.cell? ⟨b,off + k * 6,none⟩=some (.int .i64 d.kind)∧w.cell? ⟨b,off + k * 6 + 1,none⟩=some (.int .i64 d.line)∧
     w.cell? ⟨b,off + k * 6 + 2,none⟩=some (.string d.nm)∧w.cell? ⟨b,off + k * 6 + 3,none⟩=some (.int .i64 d.size)∧w.cell? ⟨b,off + k * 6 + 4,none⟩=some (.int .i64 d.init)∧
     w.cell? ⟨b,off + k * 6 + 5,none⟩=some (.string d.on)∧d.Ok)∧iL w B r ao (k + 1)
def oW (h:aV) (body els:aN):Prop:=
 aU h.op∧aU h.line∧h.nm.size≤maxLen∧h.arg.size≤maxLen∧h.idx.len≤maxLen∧oz h.bD h.xn h.bC h.aL∧body.len≤maxLen∧els.len≤maxLen
def aN.At (w:World) (B:Nat):aN→Option Addr→Nat→Prop
 | .nil,_,_=>True
 | .cons h body els rest,ao,k=>
   (∃b off dF bT bS bf bG aS dw bR,ao=some ⟨b,off,none⟩∧b < B∧w.cell? ⟨b,off + k * 11,none⟩=some (.int .i64 h.op)∧w.cell? ⟨b,off + k * 11 + 1,none⟩=some (.int .i64 h.line)∧
    w.cell? ⟨b,off + k * 11 + 2,none⟩=some (.string h.nm)∧w.cell? ⟨b,off + k * 11 + 3,none⟩=some (.string h.arg)∧w.cell? ⟨b,off + k * 11 + 4,none⟩=some (.slice dF h.idx.len bT)∧
    w.cell? ⟨b,off + k * 11 + 5,none⟩=some (.int .i64 h.bD)∧w.cell? ⟨b,off + k * 11 + 6,none⟩=some (.int .i64 h.xn)∧w.cell? ⟨b,off + k * 11 + 7,none⟩=some (.string h.bC)∧w.cell? ⟨b,off + k * 11 + 8,none⟩=some (.slice bS h.aL.len bf)∧
    w.cell? ⟨b,off + k * 11 + 9,none⟩=some (.slice bG body.len aS)∧w.cell? ⟨b,off + k * 11 + 10,none⟩=some (.slice dw els.len bR)∧oW h body els∧
    h.idx.At w B dF 0∧h.aL.At w B bS 0∧body.At w B bG 0∧els.At w B dw 0)∧rest.At w B ao (k + 1)
def Th.Ok (t:Th):Prop:=t.nm.size≤maxLen∧aU t.line∧t.bH.length≤maxLen∧t.body.len≤maxLen
def iI (w:World) (B:Nat):List Th→Option Addr→Nat→Prop
 | [],_,_=>True
 | t ::r,ao,k=>(∃b off fC dN bG aS,ao=some ⟨b,off,none⟩∧b < B∧w.cell? ⟨b,off + k * 4,none⟩=some (.string t.nm)∧w.cell? ⟨b,off + k * 4 + 1,none⟩=some (.int .i64 t.line)∧
     w.cell? ⟨b,off + k * 4 + 2,none⟩=some (.slice fC t.bH.length dN)∧w.cell? ⟨b,off + k * 4 + 3,none⟩=some (.slice bG t.body.len aS)∧t.Ok∧iX w B t.bH fC 0∧t.body.At w B bG 0∧t.bH.length≤dN)∧iI w B r ao (k + 1)
section
variable {w w':World} {B B':Nat}
theorem iX.below (hb:Below B w w'): ∀ {l:List ByteArray} {ao:Option Addr} {k:Nat},iX w B l ao k→iX w' B l ao k
 | [],_,_,_=>trivial
 | _ ::_,_,_,⟨⟨b,off,e,hB,c,hs⟩,hr⟩=>⟨⟨b,off,e,hB,(hb.cell hB).trans c,hs⟩,iX.below hb hr⟩
theorem iX.mono (h:B≤B'): ∀ {l:List ByteArray} {ao:Option Addr} {k:Nat},iX w B l ao k→iX w B' l ao k
 | [],_,_,_=>trivial
 | _ ::_,_,_,⟨⟨b,off,e,hB,c,hs⟩,hr⟩=>⟨⟨b,off,e,Nat.lt_of_lt_of_le hB h,c,hs⟩,iX.mono h hr⟩
theorem iX.same {l:List ByteArray} {ao:Option Addr} {k:Nat} (h:iX w w.heap.size l ao k) (hb:Below w.heap.size w w'):iX w' w'.heap.size l ao k:=(h.below hb).mono hb.size
theorem iX.drop: ∀ {l:List ByteArray} {ao:Option Addr} {k:Nat} (i:Nat),iX w B l ao k→iX w B (l.drop i) ao (k + i)
 | _,_,_,0,h=>h
 | [],_,_,_ + 1,_=>by simp [iX]
 | _ ::_,_,k,i + 1,⟨_,hr⟩=>by have:=iX.drop i hr; rw [List.drop_succ_cons]; rwa [Nat.add_assoc,Nat.add_comm 1 i] at this
theorem iL.below (hb:Below B w w'): ∀ {l:List De} {ao:Option Addr} {k:Nat},iL w B l ao k→iL w' B l ao k
 | [],_,_,_=>trivial
 | _ ::_,_,_,⟨⟨b,off,e,hB,c0,c1,c2,c3,c4,c5,hs⟩,hr⟩=>⟨⟨b,off,e,hB,(hb.cell hB).trans c0,(hb.cell hB).trans c1,(hb.cell hB).trans c2,(hb.cell hB).trans c3,(hb.cell hB).trans c4,(hb.cell hB).trans c5,hs⟩,iL.below hb hr⟩
theorem iL.mono (h:B≤B'): ∀ {l:List De} {ao:Option Addr} {k:Nat},iL w B l ao k→iL w B' l ao k
 | [],_,_,_=>trivial
 | _ ::_,_,_,⟨⟨b,off,e,hB,c⟩,hr⟩=>⟨⟨b,off,e,Nat.lt_of_lt_of_le hB h,c⟩,iL.mono h hr⟩
theorem iL.same {l:List De} {ao:Option Addr} {k:Nat} (h:iL w w.heap.size l ao k) (hb:Below w.heap.size w w'):iL w' w'.heap.size l ao k:=(h.below hb).mono hb.size
theorem iL.drop: ∀ {l:List De} {ao:Option Addr} {k:Nat} (i:Nat),iL w B l ao k→iL w B (l.drop i) ao (k + i)
 | _,_,_,0,h=>h
 | [],_,_,_ + 1,_=>by simp [iL]
 | _ ::_,_,k,i + 1,⟨_,hr⟩=>by have:=iL.drop i hr; rw [List.drop_succ_cons]; rwa [Nat.add_assoc,Nat.add_comm 1 i] at this
theorem iX.take: ∀ {pre R:List ByteArray} {ao:Option Addr} {k:Nat},iX w B (pre++R) ao k→iX w B pre ao k
 | [],_,_,_,_=>trivial
 | _ ::_,_,_,_,h=>⟨h.1,iX.take h.2⟩
theorem aN.At.below (hb:Below B w w'): ∀ {l:aN} {ao:Option Addr} {k:Nat},l.At w B ao k→l.At w' B ao k
 | .nil,_,_,_=>trivial
 | .cons _ _ _ _,_,_,h=>by
   obtain ⟨⟨b,off,dF,bT,bS,bf,bG,aS,dw,bR,e,hB,c0,c1,c2,c3,c4,c5,c6,c7,c8,c9,c10,hok,h1,h2,h3,h4⟩,hr⟩:=h
   exact ⟨⟨b,off,dF,bT,bS,bf,bG,aS,dw,bR,e,hB,(hb.cell hB).trans c0,(hb.cell hB).trans c1,(hb.cell hB).trans c2,(hb.cell hB).trans c3,(hb.cell hB).trans c4,(hb.cell hB).trans c5,(hb.cell hB).trans c6,(hb.cell hB).trans c7,(hb.cell hB).trans c8,(hb.cell hB).trans c9,(hb.cell hB).trans c10,hok,h1.below hb,h2.below hb,h3.below hb,h4.below hb⟩,hr.below hb⟩
theorem aN.At.mono (h:B≤B'): ∀ {l:aN} {ao:Option Addr} {k:Nat},l.At w B ao k→l.At w B' ao k
 | .nil,_,_,_=>trivial
 | .cons _ _ _ _,_,_,h'=>by
   obtain ⟨⟨b,off,dF,bT,bS,bf,bG,aS,dw,bR,e,hB,c0,c1,c2,c3,c4,c5,c6,c7,c8,c9,c10,hok,h1,h2,h3,h4⟩,hr⟩:=h'
   exact ⟨⟨b,off,dF,bT,bS,bf,bG,aS,dw,bR,e,Nat.lt_of_lt_of_le hB h,c0,c1,c2,c3,c4,c5,c6,c7,c8,c9,c10,hok,h1.mono h,h2.mono h,h3.mono h,h4.mono h⟩,hr.mono h⟩
theorem aN.At.same {l:aN} {ao:Option Addr} {k:Nat} (h:l.At w w.heap.size ao k) (hb:Below w.heap.size w w'):l.At w' w'.heap.size ao k:=(h.below hb).mono hb.size
theorem iI.below (hb:Below B w w'): ∀ {l:List Th} {ao:Option Addr} {k:Nat},iI w B l ao k→iI w' B l ao k
 | [],_,_,_=>trivial
 | _ ::_,_,_,⟨⟨b,off,fC,dN,bG,aS,e,hB,c0,c1,c2,c3,hs,ht,hst⟩,hr⟩=>⟨⟨b,off,fC,dN,bG,aS,e,hB,(hb.cell hB).trans c0,(hb.cell hB).trans c1,(hb.cell hB).trans c2,(hb.cell hB).trans c3,hs,ht.below hb,hst.1.below hb,hst.2⟩,iI.below hb hr⟩
theorem iI.mono (h:B≤B'): ∀ {l:List Th} {ao:Option Addr} {k:Nat},iI w B l ao k→iI w B' l ao k
 | [],_,_,_=>trivial
 | _ ::_,_,_,⟨⟨b,off,fC,dN,bG,aS,e,hB,c0,c1,c2,c3,hs,ht,hst⟩,hr⟩=>⟨⟨b,off,fC,dN,bG,aS,e,Nat.lt_of_lt_of_le hB h,c0,c1,c2,c3,hs,ht.mono h,hst.1.mono h,hst.2⟩,iI.mono h hr⟩
theorem iI.same {l:List Th} {ao:Option Addr} {k:Nat} (h:iI w w.heap.size l ao k) (hb:Below w.heap.size w w'):iI w' w'.heap.size l ao k:=(h.below hb).mono hb.size
theorem iI.drop: ∀ {l:List Th} {ao:Option Addr} {k:Nat} (i:Nat),iI w B l ao k→iI w B (l.drop i) ao (k + i)
 | _,_,_,0,h=>h
 | [],_,_,_ + 1,_=>by simp [iI]
 | _ ::_,_,k,i + 1,⟨_,hr⟩=>by have:=iI.drop i hr; rw [List.drop_succ_cons]; rwa [Nat.add_assoc,Nat.add_comm 1 i] at this
end
structure Pr where
 ds:List De
 ts:List Th
def Pr.At (w:World) (p:Pr) (aH aI:Option Addr):Prop:=p.ds.length≤maxLen∧p.ts.length≤maxLen∧iL w w.heap.size p.ds aH 0∧iI w w.heap.size p.ts aI 0
theorem Pr.At.same {w w':World} {p:Pr} {aH aI:Option Addr} (h:p.At w aH aI) (hb:Below w.heap.size w w'):p.At w' aH aI:=⟨h.1,h.2.1,h.2.2.1.same hb,h.2.2.2.same hb⟩
def fM (d:De):Int:=
 if d.kind == 1 then (if d.size == 0 then 2 else 3) else if d.kind == 2 then 2 else if d.kind == 3 then 4 else if d.kind == 4 then 5 else if d.kind == 5 then 6 else if d.kind == 6 then 7 else 9
def nZ (ds:List De) (nm:ByteArray):Option Int:=(ds.find? fun d=>d.nm.toList == nm.toList).map fM
def oG (ts:List Th) (nm:ByteArray):Int:=if ts.any fun t=>t.nm.toList == nm.toList then 8 else 0
def uW (ts:List Th) (i:Int):List ByteArray:=if 0≤i then ((ts[i.toNat]?).map (·.bH)).getD [] else []
def wm (l:List ByteArray) (nm:ByteArray):Bool:=l.any fun s=>s.toList == nm.toList
def mean (p:Pr) (i:Int) (nm:ByteArray):Int:=if wm (uW p.ts i) nm then 1 else (nZ p.ds nm).getD (oG p.ts nm)
end Md
end Go.Proofs.YtehnipchbmjlhaaGreatDoor
end
section
namespace Go.Proofs.YtehnipchbmjlhaaGreatDoor
open Go.RowKit
namespace Md
def fN (op:Int):Bool:=(op == 1 || (decide (4≤op) && decide (op≤6))) || (decide (9≤op) && decide (op≤15))
def fA (op:Int):Bool:=op == 15
def fI (op:Int):Bool:=op == 1
def fX (op:Int):Bool:=(op == 1 || op == 2) || (op == 3 || op == 14)
def fB (op:Int):Bool:=decide (2≤op) && decide (op≤8)
def fE (op:Int):Bool:=op == 2
def fO (op:Int):Bool:=decide (1≤op) && decide (op≤15)
def pR (op n:Int) (nm:ByteArray) (len:Nat):Bool:=((op == 0 && n == 0) && nm.toList.isEmpty) && len == 0
def fG (d:De):Bool:=(((decide (1≤d.kind) && decide (d.kind≤6)) && Tk.dZ d.nm.data.toList) && (decide (0≤d.size) && (d.size == 0 || d.kind == 1))) && (((d.init != -9223372036854775808) && (d.init == 0 || (d.kind == 1 || d.kind == 2))) && iU d.on (d.kind == 5))
def iq (h:aV) (bl el:Nat):Bool:=
 ((fO h.op && (iU h.nm (fN h.op) && iU h.arg (fA h.op))) && ((decide (h.idx.len≤1) && (!(h.idx.len == 1) || fI h.op)) && iy h.idx)) &&
   ((if fX h.op then dS h.bD h.xn h.bC h.aL else pR h.bD h.xn h.bC h.aL.len) && ((fB h.op || bl == 0) && (fE h.op || el == 0)))
def fK:aN→Bool
 | .nil=>true
 | .cons h b e r=>(iq h b.len e.len && (fK b && fK e)) && fK r
def tH (h:aV) (b e:aN):Bool:=iq h b.len e.len && (fK b && fK e)
theorem yU (h:aV) (b e r:aN):fK (.cons h b e r)=(tH h b e && fK r):=rfl
def jh (t:Th):Bool:=(Tk.dZ t.nm.data.toList && t.bH.all fun s=>Tk.dZ s.data.toList) && fK t.body
def nQ (p:Pr):Bool:=(p.ds.all fG && p.ts.all jh) && decide ((0:Int) < p.ts.length)
end Md
open Md
namespace Md
structure Sl where
 dF:Option Addr
 bT:Nat
 bS:Option Addr
 bf:Nat
 bG:Option Addr
 aS:Nat
 dw:Option Addr
 bR:Nat
def dx (h:aV) (b e:aN) (s:Sl):Value:= .agg #[.int .i64 h.op,.int .i64 h.line,.string h.nm,.string h.arg,.slice s.dF h.idx.len s.bT,.int .i64 h.bD,.int .i64 h.xn,.string h.bC,.slice s.bS h.aL.len s.bf,.slice s.bG b.len s.aS,.slice s.dw e.len s.bR]
def nN (n:Nat) (h:aV) (b e:aN) (s:Sl) (fs:List (Nat × Nat × Value)):List (Nat × Nat × Value):=
 (n,0,.int .i64 h.op) ::(n,1,.int .i64 h.line) ::(n,2,.string h.nm) ::(n,3,.string h.arg) ::(n,4,.slice s.dF h.idx.len s.bT) ::(n,5,.int .i64 h.bD) ::(n,6,.int .i64 h.xn) ::(n,7,.string h.bC) ::(n,8,.slice s.bS h.aL.len s.bf) ::(n,9,.slice s.bG b.len s.aS) ::(n,10,.slice s.dw e.len s.bR) ::fs
def nG (w:World) (h:aV) (b e:aN) (s:Sl):Prop:=oW h b e∧h.idx.At w w.heap.size s.dF 0∧h.aL.At w w.heap.size s.bS 0∧b.At w w.heap.size s.bG 0∧e.At w w.heap.size s.dw 0
theorem nG.same {w w':World} {h:aV} {b e:aN} {s:Sl} (hi:nG w h b e s) (hb:Below w.heap.size w w'):nG w' h b e s:=
 ⟨hi.1,hi.2.1.same hb,hi.2.2.1.same hb,hi.2.2.2.1.same hb,hi.2.2.2.2.same hb⟩
theorem aN.At.head {w:World} {h:aV} {b e r:aN} {ao:Option Addr} {k:Nat} (hat:(aN.cons h b e r).At w w.heap.size ao k): ∃bl off s,ao=some ⟨bl,off,none⟩∧bl < w.heap.size∧nG w h b e s∧
 w.cell? ⟨bl,off + k * 11,none⟩=some (.int .i64 h.op)∧w.cell? ⟨bl,off + k * 11 + 1,none⟩=some (.int .i64 h.line)∧w.cell? ⟨bl,off + k * 11 + 2,none⟩=some (.string h.nm)∧w.cell? ⟨bl,off + k * 11 + 3,none⟩=some (.string h.arg)∧w.cell? ⟨bl,off + k * 11 + 4,none⟩=some (.slice s.dF h.idx.len s.bT)∧
 w.cell? ⟨bl,off + k * 11 + 5,none⟩=some (.int .i64 h.bD)∧w.cell? ⟨bl,off + k * 11 + 6,none⟩=some (.int .i64 h.xn)∧w.cell? ⟨bl,off + k * 11 + 7,none⟩=some (.string h.bC)∧w.cell? ⟨bl,off + k * 11 + 8,none⟩=some (.slice s.bS h.aL.len s.bf)∧
 w.cell? ⟨bl,off + k * 11 + 9,none⟩=some (.slice s.bG b.len s.aS)∧w.cell? ⟨bl,off + k * 11 + 10,none⟩=some (.slice s.dw e.len s.bR)∧r.At w w.heap.size ao (k + 1):=by
 obtain ⟨⟨b,off,dF,bT,bS,bf,bG,aS,dw,bR,e,hB,c0,c1,c2,c3,c4,c5,c6,c7,c8,c9,c10,hok,h1,h2,h3,h4⟩,hr⟩:=hat
 exact ⟨b,off,⟨dF,bT,bS,bf,bG,aS,dw,bR⟩,e,hB,⟨hok,h1,h2,h3,h4⟩,c0,c1,c2,c3,c4,c5,c6,c7,c8,c9,c10,hr⟩
end Md
theorem Uo (n:Nat):decide ((n:Int)≤1)=decide (n≤1):=by rw [decide_eq_decide]; omega
theorem U8 (n:Nat):decide ((n:Int)=1)=(n == 1):=by rw [Bool.eq_iff_iff,decide_eq_true_iff,beq_iff_eq]; omega
theorem Kn (n:Nat):decide ((n:Int)≤0)=(n == 0):=by rw [Bool.eq_iff_iff,decide_eq_true_iff,beq_iff_eq]; omega
end Go.Proofs.YtehnipchbmjlhaaGreatDoor
end
