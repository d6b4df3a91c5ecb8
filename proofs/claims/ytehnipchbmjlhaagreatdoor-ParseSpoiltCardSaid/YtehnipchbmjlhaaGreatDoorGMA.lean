/-
  Expressions as data, and what it is that a row of them lies in memory. No program in sight.
  Regions that draw their order and only read; callees there may make memory.
  Programs as data, and what it is that they lie in memory. No program text in sight.
  What it is that a program is shaped, and statements as values. No program text in sight.
-/
import Derived.Test.YtehnipchbmjlhaaGreatDoorGTA
import Derived.WalkSmall
import Derived.Deep.QuietTactic
import Derived.BigQuiet
import Derived.Deep.DeepCutAuto
set_option linter.unusedSimpArgs false
set_option linter.unusedVariables false
set_option maxHeartbeats 40000000
set_option maxRecDepth 1000000
section
namespace Go.Proofs.YtehnipchbmjlhaaGreatDoor
open Go.RowKit
theorem dD (w:World) (cs:List Value) (t:TypeId) (j:Nat):(w.alloc (.cells cs.toArray t)).cell? ⟨w.heap.size,j,none⟩=cs[j]?:=AQ w cs t j
def sM (w W:World) (a b c d:Value):Prop:=
 Below w.heap.size w W∧w.heap.size < W.heap.size∧W.cell? ⟨w.heap.size,0,none⟩=some a∧W.cell? ⟨w.heap.size,1,none⟩=some b∧W.cell? ⟨w.heap.size,2,none⟩=some c∧W.cell? ⟨w.heap.size,3,none⟩=some d
theorem sM.mk {w W:World} {a b c d:Value} {t:TypeId} (h:w.alloc (.cells #[a,b,c,d] t)=W):sM w W a b c d:=by
 subst h
 exact ⟨(Below.refl _ _).alloc (Nat.le_refl _) _,by simp,dD w [a,b,c,d] t 0,dD w [a,b,c,d] t 1,dD w [a,b,c,d] t 2,dD w [a,b,c,d] t 3⟩
theorem sM.next {w W W':World} {a b c d:Value} (h:sM w W a b c d) (hb:Below W.heap.size W W'):sM w W' a b c d:=by
 obtain ⟨h0,hs,c0,c1,c2,c3⟩:=h
 exact ⟨h0.trans (hb.mono h0.size),Nat.lt_of_lt_of_le hs hb.size,(hb.cell hs).trans c0,(hb.cell hs).trans c1,(hb.cell hs).trans c2,(hb.cell hs).trans c3⟩
theorem sM.draws {w W:World} {a b c d:Value} (h:sM w W a b c d) (n:Nat):sM w (W.drewN n) a b c d:=h.next (below_drewN (Below.refl _ _) n)
namespace Md
def aM (n:Int):Prop:= -9223372036854775808≤n∧n≤9223372036854775807
inductive aZ where
 | nil
 | cons (op n:Int) (nm:ByteArray) (kids rest:aZ)
def aZ.len:aZ→Nat
 | .nil=>0
 | .cons _ _ _ _ r=>r.len + 1
def qO (op n:Int) (nm:ByteArray) (kids:aZ):Prop:=aM op∧aM n∧nm.size≤maxLen∧kids.len≤maxLen
def aZ.At (w:World) (B:Nat):aZ→Option Addr→Nat→Prop
 | .nil,_,_=>True
 | .cons op n nm kids rest,ao,k=>
   (∃b off jf cap,ao=some ⟨b,off,none⟩∧b < B∧w.cell? ⟨b,off + k * 4,none⟩=some (.int .i64 op)∧w.cell? ⟨b,off + k * 4 + 1,none⟩=some (.int .i64 n)∧
    w.cell? ⟨b,off + k * 4 + 2,none⟩=some (.string nm)∧w.cell? ⟨b,off + k * 4 + 3,none⟩=some (.slice jf kids.len cap)∧qO op n nm kids∧kids.At w B jf 0)∧
   rest.At w B ao (k + 1)
theorem aZ.At.below {w w':World} {B:Nat} (hb:Below B w w'): ∀ {l:aZ} {ao:Option Addr} {k:Nat},l.At w B ao k→l.At w' B ao k
 | .nil,_,_,_=>trivial
 | .cons _ _ _ _ _,_,_,h=>by
   obtain ⟨⟨b,off,jf,cap,e,hB,c0,c1,c2,c3,hok,hk⟩,hr⟩:=h
   exact ⟨⟨b,off,jf,cap,e,hB,(hb.cell hB).trans c0,(hb.cell hB).trans c1,(hb.cell hB).trans c2,(hb.cell hB).trans c3,hok,hk.below hb⟩,hr.below hb⟩
theorem aZ.At.mono {w:World} {B B':Nat} (hB':B≤B'): ∀ {l:aZ} {ao:Option Addr} {k:Nat},l.At w B ao k→l.At w B' ao k
 | .nil,_,_,_=>trivial
 | .cons _ _ _ _ _,_,_,h=>by
   obtain ⟨⟨b,off,jf,cap,e,hB,c0,c1,c2,c3,hok,hk⟩,hr⟩:=h
   exact ⟨⟨b,off,jf,cap,e,Nat.lt_of_lt_of_le hB hB',c0,c1,c2,c3,hok,hk.mono hB'⟩,hr.mono hB'⟩
theorem aZ.At.same {w w':World} {l:aZ} {ao:Option Addr} {k:Nat} (h:l.At w w.heap.size ao k) (hb:Below w.heap.size w w'):l.At w' w'.heap.size ao k:=
 (h.below hb).mono hb.size
def aZ.All (Q:Int→Int→ByteArray→aZ→Prop):aZ→Prop
 | .nil=>True
 | .cons op n nm kids rest=>Q op n nm kids∧rest.All Q
theorem aZ.pQ {Q:Int→Int→ByteArray→aZ→Prop} (step: ∀op n nm kids,kids.All Q→Q op n nm kids): ∀l:aZ,l.All Q
 | .nil=>trivial
 | .cons op n nm kids rest=>⟨step op n nm kids (pQ step kids),pQ step rest⟩
theorem aZ.Ig {Q:Int→Int→ByteArray→aZ→Prop} (step: ∀op n nm kids,kids.All Q→Q op n nm kids) (op n:Int) (nm:ByteArray) (kids:aZ):Q op n nm kids:=
 step op n nm kids (aZ.pQ step kids)
def opsOf (op:Int):Int:=if op == 1 || op == 2 then 0 else if op == 3 || op == 4 || op == 5 then 1 else if decide (6≤op) && decide (op≤18) then 2 else -1
def named (op:Int):Bool:=op == 2 || op == 3
def jw (nm:ByteArray) (b:Bool):Bool:=if b then Tk.gM nm.data.toList else nm.data.toList.isEmpty
def yh (op n:Int) (nm:ByteArray) (len:Nat):Bool:=((len:Int) == opsOf op) && (!(decide (n < 0) || (!(n == 0) && !(op == 1))) && jw nm (named op))
def jo:aZ→Bool
 | .nil=>true
 | .cons op n nm kids rest=>(yh op n nm kids.len && jo kids) && jo rest
def gW (op n:Int) (nm:ByteArray) (kids:aZ):Bool:=yh op n nm kids.len && jo kids
end Md
end Go.Proofs.YtehnipchbmjlhaaGreatDoor
end
section
namespace Go.Proofs.YtehnipchbmjlhaaGreatDoor
open Go.RowKit
open Md
theorem sj {P:Program} {f:FuncId} {args:Array Value} {w:World} {n:Nat} {v:Value} (h:Calls P f args (w.drewN n) fun e w'=>e= .returned v∧w.drewN n=w'):
 Calls P f args (w.drewN n) fun e w''=>e= .returned v∧ ∃m,w''=w.drewN m:=h.mono fun _ _ ⟨he,hm⟩=>⟨he,n,hm.symm⟩
theorem lJ {P:Program} {id:Nat} {Q:Exit→Act→World→Prop} {a:Act} {w:World} {l:List Oper} {T:Type} (F:T→World) (hm:P.follows .mixedOrders=true) (hB:Region.lexB .any l.toArray=true)
 (h1: ∃x,w.drewN 1=F x) (h:wpQuiet P l.toArray (fun w'=> ∃x,w'=F x) (fun a'=> ∀w',(∃x,w'=F x)→Q .normal a' w') l a):(Code.region id l.toArray true).wp P Q a w:=
 wp_region_quiet (C:=fun w'=> ∃x,w'=F x) hm hB h1 (by simpa using h)
theorem calm (W:World): ∃(T:Type) (F:T→World),Nonempty T∧(∃x,W.drewN 1=F x)∧(∀x,Below W.heap.size W (F x))∧ ∀x w',Below (F x).heap.size (F x) w'→ ∃y,w'=F y:=
 ⟨{W' // Below W.heap.size W W'},Subtype.val,⟨⟨_,Below.refl _ _⟩⟩,⟨⟨_,below_drewN (Below.refl _ _) 1⟩,rfl⟩,fun x=>x.2,fun x w' hb=>⟨⟨w',x.2.trans (hb.mono x.2.size)⟩,rfl⟩⟩
end Go.Proofs.YtehnipchbmjlhaaGreatDoor
end
section
namespace Go.Proofs.YtehnipchbmjlhaaGreatDoor
open Go.RowKit
def Holds (W:World):List (Nat × Nat × Value)→Prop
 | []=>True
 | f ::r=>(f.1 < W.heap.size∧W.cell? ⟨f.1,f.2.1,none⟩=some f.2.2)∧Holds W r
theorem Holds.next {W W':World} (hb:Below W.heap.size W W'): ∀ {l:List (Nat × Nat × Value)},Holds W l→Holds W' l
 | [],_=>trivial
 | _ ::_,⟨⟨h1,h2⟩,h3⟩=>⟨⟨Nat.lt_of_lt_of_le h1 hb.size,(hb.cell h1).trans h2⟩,h3.next hb⟩
def Sit (w W:World) (fs:List (Nat × Nat × Value)):Prop:=Below w.heap.size w W∧Holds W fs
theorem Sit.start (w:World):Sit w w []:=⟨Below.refl _ _,trivial⟩
theorem Sit.next {w W W':World} {fs:List (Nat × Nat × Value)} (h:Sit w W fs) (hb:Below W.heap.size W W'):Sit w W' fs:=
 ⟨h.1.trans (hb.mono h.1.size),h.2.next hb⟩
theorem ah (W:World) (o:Obj):Below W.heap.size W (W.alloc o):=(Below.refl _ _).alloc (Nat.le_refl _) _
theorem Sit.FH {w W:World} {fs:List (Nat × Nat × Value)} {n:Nat} (h:Sit w W fs) (hn:W.heap.size=n) (a b:Value) (t:TypeId):
 Sit w (W.alloc (.cells #[a,b] t)) ((n,0,a) ::(n,1,b) ::fs):=by
 subst hn
 exact ⟨(h.next (ah _ _)).1,⟨by simp,dD W [a,b] t 0⟩,⟨by simp,dD W [a,b] t 1⟩,(h.next (ah _ _)).2⟩
theorem Sit.xX {w W:World} {fs:List (Nat × Nat × Value)} {n:Nat} (h:Sit w W fs) (hn:W.heap.size=n) (a b c d:Value) (t:TypeId):
 Sit w (W.alloc (.cells #[a,b,c,d] t)) ((n,0,a) ::(n,1,b) ::(n,2,c) ::(n,3,d) ::fs):=by
 subst hn
 exact ⟨(h.next (ah _ _)).1,⟨by simp,dD W [a,b,c,d] t 0⟩,⟨by simp,dD W [a,b,c,d] t 1⟩,⟨by simp,dD W [a,b,c,d] t 2⟩,⟨by simp,dD W [a,b,c,d] t 3⟩,(h.next (ah _ _)).2⟩
theorem Sit.Bh {w W:World} {fs:List (Nat × Nat × Value)} {n:Nat} (h:Sit w W fs) (hn:W.heap.size=n) (a b c d e f:Value) (t:TypeId):
 Sit w (W.alloc (.cells #[a,b,c,d,e,f] t)) ((n,0,a) ::(n,1,b) ::(n,2,c) ::(n,3,d) ::(n,4,e) ::(n,5,f) ::fs):=by
 subst hn
 exact ⟨(h.next (ah _ _)).1,⟨by simp,dD W [a,b,c,d,e,f] t 0⟩,⟨by simp,dD W [a,b,c,d,e,f] t 1⟩,⟨by simp,dD W [a,b,c,d,e,f] t 2⟩,⟨by simp,dD W [a,b,c,d,e,f] t 3⟩,⟨by simp,dD W [a,b,c,d,e,f] t 4⟩,⟨by simp,dD W [a,b,c,d,e,f] t 5⟩,(h.next (ah _ _)).2⟩
theorem Sit.lZ {w W:World} {fs:List (Nat × Nat × Value)} {n:Nat} (hs:Sit w W fs) (hn:W.heap.size=n) (a b c d e f g h i j k:Value) (t:TypeId):
 Sit w (W.alloc (.cells #[a,b,c,d,e,f,g,h,i,j,k] t)) ((n,0,a) ::(n,1,b) ::(n,2,c) ::(n,3,d) ::(n,4,e) ::(n,5,f) ::(n,6,g) ::(n,7,h) ::(n,8,i) ::(n,9,j) ::(n,10,k) ::fs):=by
 subst hn
 exact ⟨(hs.next (ah _ _)).1,⟨by simp,dD W [a,b,c,d,e,f,g,h,i,j,k] t 0⟩,⟨by simp,dD W [a,b,c,d,e,f,g,h,i,j,k] t 1⟩,⟨by simp,dD W [a,b,c,d,e,f,g,h,i,j,k] t 2⟩,⟨by simp,dD W [a,b,c,d,e,f,g,h,i,j,k] t 3⟩,⟨by simp,dD W [a,b,c,d,e,f,g,h,i,j,k] t 4⟩,⟨by simp,dD W [a,b,c,d,e,f,g,h,i,j,k] t 5⟩,⟨by simp,dD W [a,b,c,d,e,f,g,h,i,j,k] t 6⟩,⟨by simp,dD W [a,b,c,d,e,f,g,h,i,j,k] t 7⟩,⟨by simp,dD W [a,b,c,d,e,f,g,h,i,j,k] t 8⟩,⟨by simp,dD W [a,b,c,d,e,f,g,h,i,j,k] t 9⟩,⟨by simp,dD W [a,b,c,d,e,f,g,h,i,j,k] t 10⟩,(hs.next (ah _ _)).2⟩
namespace Md
structure De where
 kind:Int
 line:Int
 nm:ByteArray
 size:Int
 init:Int
 on:ByteArray
def De.Ok (d:De):Prop:=aM d.kind∧aM d.line∧d.nm.size≤maxLen∧aM d.size∧aM d.init∧d.on.size≤maxLen
structure bf where
 op:Int
 line:Int
 nm:ByteArray
 arg:ByteArray
 idx:aZ
 bV:Int
 xn:Int
 bU:ByteArray
 aO:aZ
inductive aS where
 | nil
 | cons (h:bf) (body els rest:aS)
def aS.len:aS→Nat
 | .nil=>0
 | .cons _ _ _ r=>r.len + 1
def aS.All (Q:bf→aS→aS→Prop):aS→Prop
 | .nil=>True
 | .cons h b e r=>Q h b e∧r.All Q
theorem aS.pQ {Q:bf→aS→aS→Prop} (step: ∀h b e,b.All Q→e.All Q→Q h b e): ∀l:aS,l.All Q
 | .nil=>trivial
 | .cons h b e r=>⟨step h b e (pQ step b) (pQ step e),pQ step r⟩
structure Th where
 nm:ByteArray
 line:Int
 bZ:List ByteArray
 body:aS
def mo (w:World) (B:Nat):List ByteArray→Option Addr→Nat→Prop
 | [],_,_=>True
 | s ::r,ao,k=>(∃b off,ao=some ⟨b,off,none⟩∧b < B∧w.cell? ⟨b,off + k,none⟩=some (.string s)∧s.size≤maxLen)∧mo w B r ao (k + 1)
def kg (w:World) (B:Nat):List De→Option Addr→Nat→Prop
 | [],_,_=>True
 | d ::r,ao,k=>(∃b off,ao=some ⟨b,off,none⟩∧b < B∧w.cell? ⟨b,off + k * 6,none⟩=some (.int .i64 d.kind)∧w.cell? ⟨b,off + k * 6 + 1,none⟩=some (.int .i64 d.line)∧
     w.cell? ⟨b,off + k * 6 + 2,none⟩=some (.string d.nm)∧w.cell? ⟨b,off + k * 6 + 3,none⟩=some (.int .i64 d.size)∧w.cell? ⟨b,off + k * 6 + 4,none⟩=some (.int .i64 d.init)∧
     w.cell? ⟨b,off + k * 6 + 5,none⟩=some (.string d.on)∧d.Ok)∧kg w B r ao (k + 1)
def mO (h:bf) (body els:aS):Prop:=
 aM h.op∧aM h.line∧h.nm.size≤maxLen∧h.arg.size≤maxLen∧h.idx.len≤maxLen∧qO h.bV h.xn h.bU h.aO∧body.len≤maxLen∧els.len≤maxLen
def aS.At (w:World) (B:Nat):aS→Option Addr→Nat→Prop
 | .nil,_,_=>True
 | .cons h body els rest,ao,k=>
   (∃b off fH dW cB bF bC aV eZ dL,ao=some ⟨b,off,none⟩∧b < B∧w.cell? ⟨b,off + k * 11,none⟩=some (.int .i64 h.op)∧w.cell? ⟨b,off + k * 11 + 1,none⟩=some (.int .i64 h.line)∧
    w.cell? ⟨b,off + k * 11 + 2,none⟩=some (.string h.nm)∧w.cell? ⟨b,off + k * 11 + 3,none⟩=some (.string h.arg)∧w.cell? ⟨b,off + k * 11 + 4,none⟩=some (.slice fH h.idx.len dW)∧
    w.cell? ⟨b,off + k * 11 + 5,none⟩=some (.int .i64 h.bV)∧w.cell? ⟨b,off + k * 11 + 6,none⟩=some (.int .i64 h.xn)∧w.cell? ⟨b,off + k * 11 + 7,none⟩=some (.string h.bU)∧w.cell? ⟨b,off + k * 11 + 8,none⟩=some (.slice cB h.aO.len bF)∧
    w.cell? ⟨b,off + k * 11 + 9,none⟩=some (.slice bC body.len aV)∧w.cell? ⟨b,off + k * 11 + 10,none⟩=some (.slice eZ els.len dL)∧mO h body els∧
    h.idx.At w B fH 0∧h.aO.At w B cB 0∧body.At w B bC 0∧els.At w B eZ 0)∧rest.At w B ao (k + 1)
def Th.Ok (t:Th):Prop:=t.nm.size≤maxLen∧aM t.line∧t.bZ.length≤maxLen∧t.body.len≤maxLen
def jZ (w:World) (B:Nat):List Th→Option Addr→Nat→Prop
 | [],_,_=>True
 | t ::r,ao,k=>(∃b off fP dn bC aV,ao=some ⟨b,off,none⟩∧b < B∧w.cell? ⟨b,off + k * 4,none⟩=some (.string t.nm)∧w.cell? ⟨b,off + k * 4 + 1,none⟩=some (.int .i64 t.line)∧
     w.cell? ⟨b,off + k * 4 + 2,none⟩=some (.slice fP t.bZ.length dn)∧w.cell? ⟨b,off + k * 4 + 3,none⟩=some (.slice bC t.body.len aV)∧t.Ok∧mo w B t.bZ fP 0∧t.body.At w B bC 0∧t.bZ.length≤dn)∧jZ w B r ao (k + 1)
section
variable {w w':World} {B B':Nat}
theorem mo.below (hb:Below B w w'): ∀ {l:List ByteArray} {ao:Option Addr} {k:Nat},mo w B l ao k→mo w' B l ao k
 | [],_,_,_=>trivial
 | _ ::_,_,_,⟨⟨b,off,e,hB,c,hs⟩,hr⟩=>⟨⟨b,off,e,hB,(hb.cell hB).trans c,hs⟩,mo.below hb hr⟩
theorem mo.mono (h:B≤B'): ∀ {l:List ByteArray} {ao:Option Addr} {k:Nat},mo w B l ao k→mo w B' l ao k
 | [],_,_,_=>trivial
 | _ ::_,_,_,⟨⟨b,off,e,hB,c,hs⟩,hr⟩=>⟨⟨b,off,e,Nat.lt_of_lt_of_le hB h,c,hs⟩,mo.mono h hr⟩
theorem mo.same {l:List ByteArray} {ao:Option Addr} {k:Nat} (h:mo w w.heap.size l ao k) (hb:Below w.heap.size w w'):mo w' w'.heap.size l ao k:=(h.below hb).mono hb.size
theorem kg.below (hb:Below B w w'): ∀ {l:List De} {ao:Option Addr} {k:Nat},kg w B l ao k→kg w' B l ao k
 | [],_,_,_=>trivial
 | _ ::_,_,_,⟨⟨b,off,e,hB,c0,c1,c2,c3,c4,c5,hs⟩,hr⟩=>⟨⟨b,off,e,hB,(hb.cell hB).trans c0,(hb.cell hB).trans c1,(hb.cell hB).trans c2,(hb.cell hB).trans c3,(hb.cell hB).trans c4,(hb.cell hB).trans c5,hs⟩,kg.below hb hr⟩
theorem kg.mono (h:B≤B'): ∀ {l:List De} {ao:Option Addr} {k:Nat},kg w B l ao k→kg w B' l ao k
 | [],_,_,_=>trivial
 | _ ::_,_,_,⟨⟨b,off,e,hB,c⟩,hr⟩=>⟨⟨b,off,e,Nat.lt_of_lt_of_le hB h,c⟩,kg.mono h hr⟩
theorem kg.same {l:List De} {ao:Option Addr} {k:Nat} (h:kg w w.heap.size l ao k) (hb:Below w.heap.size w w'):kg w' w'.heap.size l ao k:=(h.below hb).mono hb.size
theorem aS.At.below (hb:Below B w w'): ∀ {l:aS} {ao:Option Addr} {k:Nat},l.At w B ao k→l.At w' B ao k
 | .nil,_,_,_=>trivial
 | .cons _ _ _ _,_,_,h=>by
   obtain ⟨⟨b,off,fH,dW,cB,bF,bC,aV,eZ,dL,e,hB,c0,c1,c2,c3,c4,c5,c6,c7,c8,c9,c10,hok,h1,h2,h3,h4⟩,hr⟩:=h
   exact ⟨⟨b,off,fH,dW,cB,bF,bC,aV,eZ,dL,e,hB,(hb.cell hB).trans c0,(hb.cell hB).trans c1,(hb.cell hB).trans c2,(hb.cell hB).trans c3,(hb.cell hB).trans c4,(hb.cell hB).trans c5,(hb.cell hB).trans c6,(hb.cell hB).trans c7,(hb.cell hB).trans c8,(hb.cell hB).trans c9,(hb.cell hB).trans c10,hok,h1.below hb,h2.below hb,h3.below hb,h4.below hb⟩,hr.below hb⟩
theorem aS.At.mono (h:B≤B'): ∀ {l:aS} {ao:Option Addr} {k:Nat},l.At w B ao k→l.At w B' ao k
 | .nil,_,_,_=>trivial
 | .cons _ _ _ _,_,_,h'=>by
   obtain ⟨⟨b,off,fH,dW,cB,bF,bC,aV,eZ,dL,e,hB,c0,c1,c2,c3,c4,c5,c6,c7,c8,c9,c10,hok,h1,h2,h3,h4⟩,hr⟩:=h'
   exact ⟨⟨b,off,fH,dW,cB,bF,bC,aV,eZ,dL,e,Nat.lt_of_lt_of_le hB h,c0,c1,c2,c3,c4,c5,c6,c7,c8,c9,c10,hok,h1.mono h,h2.mono h,h3.mono h,h4.mono h⟩,hr.mono h⟩
theorem aS.At.same {l:aS} {ao:Option Addr} {k:Nat} (h:l.At w w.heap.size ao k) (hb:Below w.heap.size w w'):l.At w' w'.heap.size ao k:=(h.below hb).mono hb.size
theorem jZ.below (hb:Below B w w'): ∀ {l:List Th} {ao:Option Addr} {k:Nat},jZ w B l ao k→jZ w' B l ao k
 | [],_,_,_=>trivial
 | _ ::_,_,_,⟨⟨b,off,fP,dn,bC,aV,e,hB,c0,c1,c2,c3,hs,ht,hst⟩,hr⟩=>⟨⟨b,off,fP,dn,bC,aV,e,hB,(hb.cell hB).trans c0,(hb.cell hB).trans c1,(hb.cell hB).trans c2,(hb.cell hB).trans c3,hs,ht.below hb,hst.1.below hb,hst.2⟩,jZ.below hb hr⟩
theorem jZ.mono (h:B≤B'): ∀ {l:List Th} {ao:Option Addr} {k:Nat},jZ w B l ao k→jZ w B' l ao k
 | [],_,_,_=>trivial
 | _ ::_,_,_,⟨⟨b,off,fP,dn,bC,aV,e,hB,c0,c1,c2,c3,hs,ht,hst⟩,hr⟩=>⟨⟨b,off,fP,dn,bC,aV,e,Nat.lt_of_lt_of_le hB h,c0,c1,c2,c3,hs,ht.mono h,hst.1.mono h,hst.2⟩,jZ.mono h hr⟩
theorem jZ.same {l:List Th} {ao:Option Addr} {k:Nat} (h:jZ w w.heap.size l ao k) (hb:Below w.heap.size w w'):jZ w' w'.heap.size l ao k:=(h.below hb).mono hb.size
end
structure Pr where
 ds:List De
 ts:List Th
def Pr.At (w:World) (p:Pr) (bY dV:Option Addr):Prop:=p.ds.length≤maxLen∧p.ts.length≤maxLen∧kg w w.heap.size p.ds bY 0∧jZ w w.heap.size p.ts dV 0
theorem Pr.At.same {w w':World} {p:Pr} {bY dV:Option Addr} (h:p.At w bY dV) (hb:Below w.heap.size w w'):p.At w' bY dV:=⟨h.1,h.2.1,h.2.2.1.same hb,h.2.2.2.same hb⟩
def aa6 (d:De):Int:=
 if d.kind == 1 then (if d.size == 0 then 2 else 3) else if d.kind == 2 then 2 else if d.kind == 3 then 4 else if d.kind == 4 then 5 else if d.kind == 5 then 6 else if d.kind == 6 then 7 else 9
def ab1 (ds:List De) (nm:ByteArray):Option Int:=(ds.find? fun d=>d.nm.toList == nm.toList).map aa6
def ZU (ts:List Th) (nm:ByteArray):Int:=if ts.any fun t=>t.nm.toList == nm.toList then 8 else 0
def Y6 (ts:List Th) (i:Int):List ByteArray:=if 0≤i then ((ts[i.toNat]?).map (·.bZ)).getD [] else []
def aa8 (l:List ByteArray) (nm:ByteArray):Bool:=l.any fun s=>s.toList == nm.toList
def mean (p:Pr) (i:Int) (nm:ByteArray):Int:=if aa8 (Y6 p.ts i) nm then 1 else (ab1 p.ds nm).getD (ZU p.ts nm)
end Md
end Go.Proofs.YtehnipchbmjlhaaGreatDoor
end
section
namespace Go.Proofs.YtehnipchbmjlhaaGreatDoor
open Go.RowKit
namespace Md
def fN (op:Int):Bool:=(op == 1 || (decide (4≤op) && decide (op≤6))) || (decide (9≤op) && decide (op≤15))
def fA (op:Int):Bool:=op == 15
def fI (op:Int):Bool:=op == 1
def fX (op:Int):Bool:=(op == 1 || op == 2) || (op == 3 || op == 14)
def fB (op:Int):Bool:=decide (2≤op) && decide (op≤8)
def fE (op:Int):Bool:=op == 2
def fO (op:Int):Bool:=decide (1≤op) && decide (op≤15)
def sV (op n:Int) (nm:ByteArray) (len:Nat):Bool:=((op == 0 && n == 0) && nm.toList.isEmpty) && len == 0
def jv (d:De):Bool:=(((decide (1≤d.kind) && decide (d.kind≤6)) && Tk.gM d.nm.data.toList) && (decide (0≤d.size) && (d.size == 0 || d.kind == 1))) && (((d.init != -9223372036854775808) && (d.init == 0 || (d.kind == 1 || d.kind == 2))) && jw d.on (d.kind == 5))
def kG (h:bf) (bl el:Nat):Bool:=
 ((fO h.op && (jw h.nm (fN h.op) && jw h.arg (fA h.op))) && ((decide (h.idx.len≤1) && (!(h.idx.len == 1) || fI h.op)) && jo h.idx)) &&
   ((if fX h.op then gW h.bV h.xn h.bU h.aO else sV h.bV h.xn h.bU h.aO.len) && ((fB h.op || bl == 0) && (fE h.op || el == 0)))
def jd:aS→Bool
 | .nil=>true
 | .cons h b e r=>(kG h b.len e.len && (jd b && jd e)) && jd r
def uq (h:bf) (b e:aS):Bool:=kG h b.len e.len && (jd b && jd e)
theorem zq (h:bf) (b e r:aS):jd (.cons h b e r)=(uq h b e && jd r):=rfl
def mW (t:Th):Bool:=(Tk.gM t.nm.data.toList && t.bZ.all fun s=>Tk.gM s.data.toList) && jd t.body
def yx (p:Pr):Bool:=(p.ds.all jv && p.ts.all mW) && decide ((0:Int) < p.ts.length)
end Md
open Md
namespace Md
structure Sl where
 fH:Option Addr
 dW:Nat
 cB:Option Addr
 bF:Nat
 bC:Option Addr
 aV:Nat
 eZ:Option Addr
 dL:Nat
def bP (h:bf) (b e:aS) (s:Sl):Value:= .agg #[.int .i64 h.op,.int .i64 h.line,.string h.nm,.string h.arg,.slice s.fH h.idx.len s.dW,.int .i64 h.bV,.int .i64 h.xn,.string h.bU,.slice s.cB h.aO.len s.bF,.slice s.bC b.len s.aV,.slice s.eZ e.len s.dL]
def QN (n:Nat) (h:bf) (b e:aS) (s:Sl) (fs:List (Nat × Nat × Value)):List (Nat × Nat × Value):=
 (n,0,.int .i64 h.op) ::(n,1,.int .i64 h.line) ::(n,2,.string h.nm) ::(n,3,.string h.arg) ::(n,4,.slice s.fH h.idx.len s.dW) ::(n,5,.int .i64 h.bV) ::(n,6,.int .i64 h.xn) ::(n,7,.string h.bU) ::(n,8,.slice s.cB h.aO.len s.bF) ::(n,9,.slice s.bC b.len s.aV) ::(n,10,.slice s.eZ e.len s.dL) ::fs
def Dn (w:World) (h:bf) (b e:aS) (s:Sl):Prop:=mO h b e∧h.idx.At w w.heap.size s.fH 0∧h.aO.At w w.heap.size s.cB 0∧b.At w w.heap.size s.bC 0∧e.At w w.heap.size s.eZ 0
theorem Dn.same {w w':World} {h:bf} {b e:aS} {s:Sl} (hi:Dn w h b e s) (hb:Below w.heap.size w w'):Dn w' h b e s:=
 ⟨hi.1,hi.2.1.same hb,hi.2.2.1.same hb,hi.2.2.2.1.same hb,hi.2.2.2.2.same hb⟩
theorem aS.At.head {w:World} {h:bf} {b e r:aS} {ao:Option Addr} {k:Nat} (hat:(aS.cons h b e r).At w w.heap.size ao k): ∃bl off s,ao=some ⟨bl,off,none⟩∧bl < w.heap.size∧Dn w h b e s∧
 w.cell? ⟨bl,off + k * 11,none⟩=some (.int .i64 h.op)∧w.cell? ⟨bl,off + k * 11 + 1,none⟩=some (.int .i64 h.line)∧w.cell? ⟨bl,off + k * 11 + 2,none⟩=some (.string h.nm)∧w.cell? ⟨bl,off + k * 11 + 3,none⟩=some (.string h.arg)∧w.cell? ⟨bl,off + k * 11 + 4,none⟩=some (.slice s.fH h.idx.len s.dW)∧
 w.cell? ⟨bl,off + k * 11 + 5,none⟩=some (.int .i64 h.bV)∧w.cell? ⟨bl,off + k * 11 + 6,none⟩=some (.int .i64 h.xn)∧w.cell? ⟨bl,off + k * 11 + 7,none⟩=some (.string h.bU)∧w.cell? ⟨bl,off + k * 11 + 8,none⟩=some (.slice s.cB h.aO.len s.bF)∧
 w.cell? ⟨bl,off + k * 11 + 9,none⟩=some (.slice s.bC b.len s.aV)∧w.cell? ⟨bl,off + k * 11 + 10,none⟩=some (.slice s.eZ e.len s.dL)∧r.At w w.heap.size ao (k + 1):=by
 obtain ⟨⟨b,off,fH,dW,cB,bF,bC,aV,eZ,dL,e,hB,c0,c1,c2,c3,c4,c5,c6,c7,c8,c9,c10,hok,h1,h2,h3,h4⟩,hr⟩:=hat
 exact ⟨b,off,⟨fH,dW,cB,bF,bC,aV,eZ,dL⟩,e,hB,⟨hok,h1,h2,h3,h4⟩,c0,c1,c2,c3,c4,c5,c6,c7,c8,c9,c10,hr⟩
end Md
theorem UW (n:Nat):decide ((n:Int)≤1)=decide (n≤1):=by rw [decide_eq_decide]; omega
theorem VL (n:Nat):decide ((n:Int)=1)=(n == 1):=by rw [Bool.eq_iff_iff,decide_eq_true_iff,beq_iff_eq]; omega
theorem LK (n:Nat):decide ((n:Int)≤0)=(n == 0):=by rw [Bool.eq_iff_iff,decide_eq_true_iff,beq_iff_eq]; omega
end Go.Proofs.YtehnipchbmjlhaaGreatDoor
end
