/-
  Expressions as data, and what it is that a row of them lies in memory. No program in sight.
  Regions that draw their order and only read; callees there may make memory.
  Programs as data, and what it is that they lie in memory. No program text in sight.
  What it is that a program is shaped, and statements as values. No program text in sight.
-/
import Derived.Test.YtehnipchbmjlhaaGreatDoorGTA
import Derived.WalkSmall
import Derived.Deep.QuietTactic
import Derived.BigQuiet
import Derived.Deep.DeepCutAuto
section
namespace Go.Proofs.YtehnipchbmjlhaaGreatDoor
open Go.RowKit
theorem dn (w:World) (cs:List Value) (t:TypeId) (j:Nat):(w.alloc (.cells cs.toArray t)).cell? ⟨w.heap.size,j,none⟩=cs[j]?:=AX w cs t j
def rO (w W:World) (a b c d:Value):Prop:=
 Below w.heap.size w W∧w.heap.size < W.heap.size∧W.cell? ⟨w.heap.size,0,none⟩=some a∧W.cell? ⟨w.heap.size,1,none⟩=some b∧W.cell? ⟨w.heap.size,2,none⟩=some c∧W.cell? ⟨w.heap.size,3,none⟩=some d
theorem rO.mk {w W:World} {a b c d:Value} {t:TypeId} (h:w.alloc (.cells #[a,b,c,d] t)=W):rO w W a b c d:=by
 subst h
 exact ⟨(Below.refl _ _).alloc (Nat.le_refl _) _,by simp,dn w [a,b,c,d] t 0,dn w [a,b,c,d] t 1,dn w [a,b,c,d] t 2,dn w [a,b,c,d] t 3⟩
theorem rO.next {w W W':World} {a b c d:Value} (h:rO w W a b c d) (hb:Below W.heap.size W W'):rO w W' a b c d:=by
 obtain ⟨h0,hs,c0,c1,c2,c3⟩:=h
 exact ⟨h0.trans (hb.mono h0.size),Nat.lt_of_lt_of_le hs hb.size,(hb.cell hs).trans c0,(hb.cell hs).trans c1,(hb.cell hs).trans c2,(hb.cell hs).trans c3⟩
theorem rO.draws {w W:World} {a b c d:Value} (h:rO w W a b c d) (n:Nat):rO w (W.drewN n) a b c d:=h.next (below_drewN (Below.refl _ _) n)
namespace Md
def aV (n:Int):Prop:= -9223372036854775808≤n∧n≤9223372036854775807
inductive aH where
 | nil
 | cons (op n:Int) (nm:ByteArray) (kids rest:aH)
def aH.len:aH→Nat
 | .nil=>0
 | .cons _ _ _ _ r=>r.len + 1
def qK (op n:Int) (nm:ByteArray) (kids:aH):Prop:=aV op∧aV n∧nm.size≤maxLen∧kids.len≤maxLen
def aH.At (w:World) (B:Nat):aH→Option Addr→Nat→Prop
 | .nil,_,_=>True
 | .cons op n nm kids rest,ao,k=>
   (∃b off gM cap,ao=some ⟨b,off,none⟩∧b < B∧w.cell? ⟨b,off + k * 4,none⟩=some (.int .i64 op)∧w.cell? ⟨b,off + k * 4 + 1,none⟩=some (.int .i64 n)∧
    w.cell? ⟨b,off + k * 4 + 2,none⟩=some (.string nm)∧w.cell? ⟨b,off + k * 4 + 3,none⟩=some (.slice gM kids.len cap)∧qK op n nm kids∧kids.At w B gM 0)∧
   rest.At w B ao (k + 1)
theorem aH.At.below {w w':World} {B:Nat} (hb:Below B w w'): ∀ {l:aH} {ao:Option Addr} {k:Nat},l.At w B ao k→l.At w' B ao k
 | .nil,_,_,_=>trivial
 | .cons _ _ _ _ _,_,_,h=>by
   obtain ⟨⟨b,off,gM,cap,e,hB,c0,c1,c2,c3,hok,hk⟩,hr⟩:=h
   exact ⟨⟨b,off,gM,cap,e,hB,(hb.cell hB).trans c0,(hb.cell hB).trans c1,(hb.cell hB).trans c2,(hb.cell hB).trans c3,hok,hk.below hb⟩,hr.below hb⟩
theorem aH.At.mono {w:World} {B B':Nat} (hB':B≤B'): ∀ {l:aH} {ao:Option Addr} {k:Nat},l.At w B ao k→l.At w B' ao k
 | .nil,_,_,_=>trivial
 | .cons _ _ _ _ _,_,_,h=>by
   obtain ⟨⟨b,off,gM,cap,e,hB,c0,c1,c2,c3,hok,hk⟩,hr⟩:=h
   exact ⟨⟨b,off,gM,cap,e,Nat.lt_of_lt_of_le hB hB',c0,c1,c2,c3,hok,hk.mono hB'⟩,hr.mono hB'⟩
theorem aH.At.same {w w':World} {l:aH} {ao:Option Addr} {k:Nat} (h:l.At w w.heap.size ao k) (hb:Below w.heap.size w w'):l.At w' w'.heap.size ao k:=
 (h.below hb).mono hb.size
def aH.All (Q:Int→Int→ByteArray→aH→Prop):aH→Prop
 | .nil=>True
 | .cons op n nm kids rest=>Q op n nm kids∧rest.All Q
theorem aH.mZ {Q:Int→Int→ByteArray→aH→Prop} (step: ∀op n nm kids,kids.All Q→Q op n nm kids): ∀l:aH,l.All Q
 | .nil=>trivial
 | .cons op n nm kids rest=>⟨step op n nm kids (mZ step kids),mZ step rest⟩
theorem aH.yu {Q:Int→Int→ByteArray→aH→Prop} (step: ∀op n nm kids,kids.All Q→Q op n nm kids) (op n:Int) (nm:ByteArray) (kids:aH):Q op n nm kids:=
 step op n nm kids (aH.mZ step kids)
def opsOf (op:Int):Int:=if op == 1 || op == 2 then 0 else if op == 3 || op == 4 || op == 5 then 1 else if decide (6≤op) && decide (op≤18) then 2 else -1
def named (op:Int):Bool:=op == 2 || op == 3
def iT (nm:ByteArray) (b:Bool):Bool:=if b then Tk.dQ nm.data.toList else nm.data.toList.isEmpty
def uK (op n:Int) (nm:ByteArray) (len:Nat):Bool:=((len:Int) == opsOf op) && (!(decide (n < 0) || (!(n == 0) && !(op == 1))) && iT nm (named op))
def gZ:aH→Bool
 | .nil=>true
 | .cons op n nm kids rest=>(uK op n nm kids.len && gZ kids) && gZ rest
def dI (op n:Int) (nm:ByteArray) (kids:aH):Bool:=uK op n nm kids.len && gZ kids
end Md
end Go.Proofs.YtehnipchbmjlhaaGreatDoor
end
section
namespace Go.Proofs.YtehnipchbmjlhaaGreatDoor
open Go.RowKit
open Md
theorem uG {P:Program} {f:FuncId} {args:Array Value} {w:World} {n:Nat} {v:Value} (h:Calls P f args (w.drewN n) fun e w'=>e= .returned v∧w.drewN n=w'):
 Calls P f args (w.drewN n) fun e w''=>e= .returned v∧ ∃m,w''=w.drewN m:=h.mono fun _ _ ⟨he,hm⟩=>⟨he,n,hm.symm⟩
theorem kH {P:Program} {id:Nat} {Q:Exit→Act→World→Prop} {a:Act} {w:World} {l:List Oper} {T:Type} (F:T→World) (hm:P.follows .mixedOrders=true) (hB:Region.lexB .any l.toArray=true)
 (h1: ∃x,w.drewN 1=F x) (h:wpQuiet P l.toArray (fun w'=> ∃x,w'=F x) (fun a'=> ∀w',(∃x,w'=F x)→Q .normal a' w') l a):(Code.region id l.toArray true).wp P Q a w:=
 wp_region_quiet (C:=fun w'=> ∃x,w'=F x) hm hB h1 (by simpa using h)
theorem calm (W:World): ∃(T:Type) (F:T→World),Nonempty T∧(∃x,W.drewN 1=F x)∧(∀x,Below W.heap.size W (F x))∧ ∀x w',Below (F x).heap.size (F x) w'→ ∃y,w'=F y:=
 ⟨{W' // Below W.heap.size W W'},Subtype.val,⟨⟨_,Below.refl _ _⟩⟩,⟨⟨_,below_drewN (Below.refl _ _) 1⟩,rfl⟩,fun x=>x.2,fun x w' hb=>⟨⟨w',x.2.trans (hb.mono x.2.size)⟩,rfl⟩⟩
end Go.Proofs.YtehnipchbmjlhaaGreatDoor
end
section
namespace Go.Proofs.YtehnipchbmjlhaaGreatDoor
open Go.RowKit
def Holds (W:World):List (Nat × Nat × Value)→Prop
 | []=>True
 | f ::r=>(f.1 < W.heap.size∧W.cell? ⟨f.1,f.2.1,none⟩=some f.2.2)∧Holds W r
theorem Holds.next {W W':World} (hb:Below W.heap.size W W'): ∀ {l:List (Nat × Nat × Value)},Holds W l→Holds W' l
 | [],_=>trivial
 | _ ::_,⟨⟨h1,h2⟩,h3⟩=>⟨⟨Nat.lt_of_lt_of_le h1 hb.size,(hb.cell h1).trans h2⟩,h3.next hb⟩
def Sit (w W:World) (fs:List (Nat × Nat × Value)):Prop:=Below w.heap.size w W∧Holds W fs
theorem Sit.start (w:World):Sit w w []:=⟨Below.refl _ _,trivial⟩
theorem Sit.next {w W W':World} {fs:List (Nat × Nat × Value)} (h:Sit w W fs) (hb:Below W.heap.size W W'):Sit w W' fs:=
 ⟨h.1.trans (hb.mono h.1.size),h.2.next hb⟩
theorem Sit.draws {w W:World} {fs:List (Nat × Nat × Value)} (h:Sit w W fs) (n:Nat):Sit w (W.drewN n) fs:=h.next (below_drewN (Below.refl _ _) n)
theorem ah (W:World) (o:Obj):Below W.heap.size W (W.alloc o):=(Below.refl _ _).alloc (Nat.le_refl _) _
theorem Sit.Ez {w W:World} {fs:List (Nat × Nat × Value)} {n:Nat} (h:Sit w W fs) (hn:W.heap.size=n) (a b:Value) (t:TypeId):
 Sit w (W.alloc (.cells #[a,b] t)) ((n,0,a) ::(n,1,b) ::fs):=by
 subst hn
 exact ⟨(h.next (ah _ _)).1,⟨by simp,dn W [a,b] t 0⟩,⟨by simp,dn W [a,b] t 1⟩,(h.next (ah _ _)).2⟩
theorem Sit.qz {w W:World} {fs:List (Nat × Nat × Value)} {n:Nat} (h:Sit w W fs) (hn:W.heap.size=n) (a b c d:Value) (t:TypeId):
 Sit w (W.alloc (.cells #[a,b,c,d] t)) ((n,0,a) ::(n,1,b) ::(n,2,c) ::(n,3,d) ::fs):=by
 subst hn
 exact ⟨(h.next (ah _ _)).1,⟨by simp,dn W [a,b,c,d] t 0⟩,⟨by simp,dn W [a,b,c,d] t 1⟩,⟨by simp,dn W [a,b,c,d] t 2⟩,⟨by simp,dn W [a,b,c,d] t 3⟩,(h.next (ah _ _)).2⟩
theorem Sit.zZ {w W:World} {fs:List (Nat × Nat × Value)} {n:Nat} (h:Sit w W fs) (hn:W.heap.size=n) (a b c d e f:Value) (t:TypeId):
 Sit w (W.alloc (.cells #[a,b,c,d,e,f] t)) ((n,0,a) ::(n,1,b) ::(n,2,c) ::(n,3,d) ::(n,4,e) ::(n,5,f) ::fs):=by
 subst hn
 exact ⟨(h.next (ah _ _)).1,⟨by simp,dn W [a,b,c,d,e,f] t 0⟩,⟨by simp,dn W [a,b,c,d,e,f] t 1⟩,⟨by simp,dn W [a,b,c,d,e,f] t 2⟩,⟨by simp,dn W [a,b,c,d,e,f] t 3⟩,⟨by simp,dn W [a,b,c,d,e,f] t 4⟩,⟨by simp,dn W [a,b,c,d,e,f] t 5⟩,(h.next (ah _ _)).2⟩
theorem Sit.kT {w W:World} {fs:List (Nat × Nat × Value)} {n:Nat} (hs:Sit w W fs) (hn:W.heap.size=n) (a b c d e f g h i j k:Value) (t:TypeId):
 Sit w (W.alloc (.cells #[a,b,c,d,e,f,g,h,i,j,k] t)) ((n,0,a) ::(n,1,b) ::(n,2,c) ::(n,3,d) ::(n,4,e) ::(n,5,f) ::(n,6,g) ::(n,7,h) ::(n,8,i) ::(n,9,j) ::(n,10,k) ::fs):=by
 subst hn
 exact ⟨(hs.next (ah _ _)).1,⟨by simp,dn W [a,b,c,d,e,f,g,h,i,j,k] t 0⟩,⟨by simp,dn W [a,b,c,d,e,f,g,h,i,j,k] t 1⟩,⟨by simp,dn W [a,b,c,d,e,f,g,h,i,j,k] t 2⟩,⟨by simp,dn W [a,b,c,d,e,f,g,h,i,j,k] t 3⟩,⟨by simp,dn W [a,b,c,d,e,f,g,h,i,j,k] t 4⟩,⟨by simp,dn W [a,b,c,d,e,f,g,h,i,j,k] t 5⟩,⟨by simp,dn W [a,b,c,d,e,f,g,h,i,j,k] t 6⟩,⟨by simp,dn W [a,b,c,d,e,f,g,h,i,j,k] t 7⟩,⟨by simp,dn W [a,b,c,d,e,f,g,h,i,j,k] t 8⟩,⟨by simp,dn W [a,b,c,d,e,f,g,h,i,j,k] t 9⟩,⟨by simp,dn W [a,b,c,d,e,f,g,h,i,j,k] t 10⟩,(hs.next (ah _ _)).2⟩
namespace Md
structure De where
 kind:Int
 line:Int
 nm:ByteArray
 size:Int
 init:Int
 on:ByteArray
def De.Ok (d:De):Prop:=aV d.kind∧aV d.line∧d.nm.size≤maxLen∧aV d.size∧aV d.init∧d.on.size≤maxLen
structure aW where
 op:Int
 line:Int
 nm:ByteArray
 arg:ByteArray
 idx:aH
 bM:Int
 xn:Int
 bP:ByteArray
 aJ:aH
inductive aI where
 | nil
 | cons (h:aW) (body els rest:aI)
def aI.len:aI→Nat
 | .nil=>0
 | .cons _ _ _ r=>r.len + 1
def aI.All (Q:aW→aI→aI→Prop):aI→Prop
 | .nil=>True
 | .cons h b e r=>Q h b e∧r.All Q
theorem aI.mZ {Q:aW→aI→aI→Prop} (step: ∀h b e,b.All Q→e.All Q→Q h b e): ∀l:aI,l.All Q
 | .nil=>trivial
 | .cons h b e r=>⟨step h b e (mZ step b) (mZ step e),mZ step r⟩
theorem aI.yu {Q:aW→aI→aI→Prop} (step: ∀h b e,b.All Q→e.All Q→Q h b e) (h:aW) (b e:aI):Q h b e:=
 step h b e (aI.mZ step b) (aI.mZ step e)
structure Th where
 nm:ByteArray
 line:Int
 cB:List ByteArray
 body:aI
def iR (w:World) (B:Nat):List ByteArray→Option Addr→Nat→Prop
 | [],_,_=>True
 | s ::r,ao,k=>(∃b off,ao=some ⟨b,off,none⟩∧b < B∧w.cell? ⟨b,off + k,none⟩=some (.string s)∧s.size≤maxLen)∧iR w B r ao (k + 1)
def gU (w:World) (B:Nat):List De→Option Addr→Nat→Prop
 | [],_,_=>True
 | d ::r,ao,k=>(∃b off,ao=some ⟨b,off,none⟩∧b < B∧w.cell? ⟨b,off + k * 6,none⟩=some (.int .i64 d.kind)∧w.cell? ⟨b,off + k * 6 + 1,none⟩=some (.int .i64 d.line)∧
     w.cell? ⟨b,off + k * 6 + 2,none⟩=some (.string d.nm)∧w.cell? ⟨b,off + k * 6 + 3,none⟩=some (.int .i64 d.size)∧w.cell? ⟨b,off + k * 6 + 4,none⟩=some (.int .i64 d.init)∧
     w.cell? ⟨b,off + k * 6 + 5,none⟩=some (.string d.on)∧d.Ok)∧gU w B r ao (k + 1)
def oD (h:aW) (body els:aI):Prop:=
 aV h.op∧aV h.line∧h.nm.size≤maxLen∧h.arg.size≤maxLen∧h.idx.len≤maxLen∧qK h.bM h.xn h.bP h.aJ∧body.len≤maxLen∧els.len≤maxLen
def aI.At (w:World) (B:Nat):aI→Option Addr→Nat→Prop
 | .nil,_,_=>True
 | .cons h body els rest,ao,k=>
   (∃b off eP dK dJ bS bR aZ dY dA,ao=some ⟨b,off,none⟩∧b < B∧w.cell? ⟨b,off + k * 11,none⟩=some (.int .i64 h.op)∧w.cell? ⟨b,off + k * 11 + 1,none⟩=some (.int .i64 h.line)∧
    w.cell? ⟨b,off + k * 11 + 2,none⟩=some (.string h.nm)∧w.cell? ⟨b,off + k * 11 + 3,none⟩=some (.string h.arg)∧w.cell? ⟨b,off + k * 11 + 4,none⟩=some (.slice eP h.idx.len dK)∧
    w.cell? ⟨b,off + k * 11 + 5,none⟩=some (.int .i64 h.bM)∧w.cell? ⟨b,off + k * 11 + 6,none⟩=some (.int .i64 h.xn)∧w.cell? ⟨b,off + k * 11 + 7,none⟩=some (.string h.bP)∧w.cell? ⟨b,off + k * 11 + 8,none⟩=some (.slice dJ h.aJ.len bS)∧
    w.cell? ⟨b,off + k * 11 + 9,none⟩=some (.slice bR body.len aZ)∧w.cell? ⟨b,off + k * 11 + 10,none⟩=some (.slice dY els.len dA)∧oD h body els∧
    h.idx.At w B eP 0∧h.aJ.At w B dJ 0∧body.At w B bR 0∧els.At w B dY 0)∧rest.At w B ao (k + 1)
def Th.Ok (t:Th):Prop:=t.nm.size≤maxLen∧aV t.line∧t.cB.length≤maxLen∧t.body.len≤maxLen
def gP (w:World) (B:Nat):List Th→Option Addr→Nat→Prop
 | [],_,_=>True
 | t ::r,ao,k=>(∃b off fD dG bR aZ,ao=some ⟨b,off,none⟩∧b < B∧w.cell? ⟨b,off + k * 4,none⟩=some (.string t.nm)∧w.cell? ⟨b,off + k * 4 + 1,none⟩=some (.int .i64 t.line)∧
     w.cell? ⟨b,off + k * 4 + 2,none⟩=some (.slice fD t.cB.length dG)∧w.cell? ⟨b,off + k * 4 + 3,none⟩=some (.slice bR t.body.len aZ)∧t.Ok∧iR w B t.cB fD 0∧t.body.At w B bR 0∧t.cB.length≤dG)∧gP w B r ao (k + 1)
section
variable {w w':World} {B B':Nat}
theorem iR.below (hb:Below B w w'): ∀ {l:List ByteArray} {ao:Option Addr} {k:Nat},iR w B l ao k→iR w' B l ao k
 | [],_,_,_=>trivial
 | _ ::_,_,_,⟨⟨b,off,e,hB,c,hs⟩,hr⟩=>⟨⟨b,off,e,hB,(hb.cell hB).trans c,hs⟩,iR.below hb hr⟩
theorem iR.mono (h:B≤B'): ∀ {l:List ByteArray} {ao:Option Addr} {k:Nat},iR w B l ao k→iR w B' l ao k
 | [],_,_,_=>trivial
 | _ ::_,_,_,⟨⟨b,off,e,hB,c,hs⟩,hr⟩=>⟨⟨b,off,e,Nat.lt_of_lt_of_le hB h,c,hs⟩,iR.mono h hr⟩
theorem iR.same {l:List ByteArray} {ao:Option Addr} {k:Nat} (h:iR w w.heap.size l ao k) (hb:Below w.heap.size w w'):iR w' w'.heap.size l ao k:=(h.below hb).mono hb.size
theorem iR.drop: ∀ {l:List ByteArray} {ao:Option Addr} {k:Nat} (i:Nat),iR w B l ao k→iR w B (l.drop i) ao (k + i)
 | _,_,_,0,h=>h
 | [],_,_,_ + 1,_=>by simp [iR]
 | _ ::_,_,k,i + 1,⟨_,hr⟩=>by have:=iR.drop i hr; rw [List.drop_succ_cons]; rwa [Nat.add_assoc,Nat.add_comm 1 i] at this
theorem gU.below (hb:Below B w w'): ∀ {l:List De} {ao:Option Addr} {k:Nat},gU w B l ao k→gU w' B l ao k
 | [],_,_,_=>trivial
 | _ ::_,_,_,⟨⟨b,off,e,hB,c0,c1,c2,c3,c4,c5,hs⟩,hr⟩=>⟨⟨b,off,e,hB,(hb.cell hB).trans c0,(hb.cell hB).trans c1,(hb.cell hB).trans c2,(hb.cell hB).trans c3,(hb.cell hB).trans c4,(hb.cell hB).trans c5,hs⟩,gU.below hb hr⟩
theorem gU.mono (h:B≤B'): ∀ {l:List De} {ao:Option Addr} {k:Nat},gU w B l ao k→gU w B' l ao k
 | [],_,_,_=>trivial
 | _ ::_,_,_,⟨⟨b,off,e,hB,c⟩,hr⟩=>⟨⟨b,off,e,Nat.lt_of_lt_of_le hB h,c⟩,gU.mono h hr⟩
theorem gU.same {l:List De} {ao:Option Addr} {k:Nat} (h:gU w w.heap.size l ao k) (hb:Below w.heap.size w w'):gU w' w'.heap.size l ao k:=(h.below hb).mono hb.size
theorem gU.drop: ∀ {l:List De} {ao:Option Addr} {k:Nat} (i:Nat),gU w B l ao k→gU w B (l.drop i) ao (k + i)
 | _,_,_,0,h=>h
 | [],_,_,_ + 1,_=>by simp [gU]
 | _ ::_,_,k,i + 1,⟨_,hr⟩=>by have:=gU.drop i hr; rw [List.drop_succ_cons]; rwa [Nat.add_assoc,Nat.add_comm 1 i] at this
theorem iR.take: ∀ {pre R:List ByteArray} {ao:Option Addr} {k:Nat},iR w B (pre++R) ao k→iR w B pre ao k
 | [],_,_,_,_=>trivial
 | _ ::_,_,_,_,h=>⟨h.1,iR.take h.2⟩
theorem gU.take: ∀ {pre R:List De} {ao:Option Addr} {k:Nat},gU w B (pre++R) ao k→gU w B pre ao k
 | [],_,_,_,_=>trivial
 | _ ::_,_,_,_,h=>⟨h.1,gU.take h.2⟩
theorem aI.At.below (hb:Below B w w'): ∀ {l:aI} {ao:Option Addr} {k:Nat},l.At w B ao k→l.At w' B ao k
 | .nil,_,_,_=>trivial
 | .cons _ _ _ _,_,_,h=>by
   obtain ⟨⟨b,off,eP,dK,dJ,bS,bR,aZ,dY,dA,e,hB,c0,c1,c2,c3,c4,c5,c6,c7,c8,c9,c10,hok,h1,h2,h3,h4⟩,hr⟩:=h
   exact ⟨⟨b,off,eP,dK,dJ,bS,bR,aZ,dY,dA,e,hB,(hb.cell hB).trans c0,(hb.cell hB).trans c1,(hb.cell hB).trans c2,(hb.cell hB).trans c3,(hb.cell hB).trans c4,(hb.cell hB).trans c5,(hb.cell hB).trans c6,(hb.cell hB).trans c7,(hb.cell hB).trans c8,(hb.cell hB).trans c9,(hb.cell hB).trans c10,hok,h1.below hb,h2.below hb,h3.below hb,h4.below hb⟩,hr.below hb⟩
theorem aI.At.mono (h:B≤B'): ∀ {l:aI} {ao:Option Addr} {k:Nat},l.At w B ao k→l.At w B' ao k
 | .nil,_,_,_=>trivial
 | .cons _ _ _ _,_,_,h'=>by
   obtain ⟨⟨b,off,eP,dK,dJ,bS,bR,aZ,dY,dA,e,hB,c0,c1,c2,c3,c4,c5,c6,c7,c8,c9,c10,hok,h1,h2,h3,h4⟩,hr⟩:=h'
   exact ⟨⟨b,off,eP,dK,dJ,bS,bR,aZ,dY,dA,e,Nat.lt_of_lt_of_le hB h,c0,c1,c2,c3,c4,c5,c6,c7,c8,c9,c10,hok,h1.mono h,h2.mono h,h3.mono h,h4.mono h⟩,hr.mono h⟩
theorem aI.At.same {l:aI} {ao:Option Addr} {k:Nat} (h:l.At w w.heap.size ao k) (hb:Below w.heap.size w w'):l.At w' w'.heap.size ao k:=(h.below hb).mono hb.size
theorem gP.below (hb:Below B w w'): ∀ {l:List Th} {ao:Option Addr} {k:Nat},gP w B l ao k→gP w' B l ao k
 | [],_,_,_=>trivial
 | _ ::_,_,_,⟨⟨b,off,fD,dG,bR,aZ,e,hB,c0,c1,c2,c3,hs,ht,hst⟩,hr⟩=>⟨⟨b,off,fD,dG,bR,aZ,e,hB,(hb.cell hB).trans c0,(hb.cell hB).trans c1,(hb.cell hB).trans c2,(hb.cell hB).trans c3,hs,ht.below hb,hst.1.below hb,hst.2⟩,gP.below hb hr⟩
theorem gP.mono (h:B≤B'): ∀ {l:List Th} {ao:Option Addr} {k:Nat},gP w B l ao k→gP w B' l ao k
 | [],_,_,_=>trivial
 | _ ::_,_,_,⟨⟨b,off,fD,dG,bR,aZ,e,hB,c0,c1,c2,c3,hs,ht,hst⟩,hr⟩=>⟨⟨b,off,fD,dG,bR,aZ,e,Nat.lt_of_lt_of_le hB h,c0,c1,c2,c3,hs,ht.mono h,hst.1.mono h,hst.2⟩,gP.mono h hr⟩
theorem gP.same {l:List Th} {ao:Option Addr} {k:Nat} (h:gP w w.heap.size l ao k) (hb:Below w.heap.size w w'):gP w' w'.heap.size l ao k:=(h.below hb).mono hb.size
theorem gP.drop: ∀ {l:List Th} {ao:Option Addr} {k:Nat} (i:Nat),gP w B l ao k→gP w B (l.drop i) ao (k + i)
 | _,_,_,0,h=>h
 | [],_,_,_ + 1,_=>by simp [gP]
 | _ ::_,_,k,i + 1,⟨_,hr⟩=>by have:=gP.drop i hr; rw [List.drop_succ_cons]; rwa [Nat.add_assoc,Nat.add_comm 1 i] at this
theorem gP.take: ∀ {pre R:List Th} {ao:Option Addr} {k:Nat},gP w B (pre++R) ao k→gP w B pre ao k
 | [],_,_,_,_=>trivial
 | _ ::_,_,_,_,h=>⟨h.1,gP.take h.2⟩
end
structure Pr where
 ds:List De
 ts:List Th
def Pr.At (w:World) (p:Pr) (bq bQ:Option Addr):Prop:=p.ds.length≤maxLen∧p.ts.length≤maxLen∧gU w w.heap.size p.ds bq 0∧gP w w.heap.size p.ts bQ 0
theorem Pr.At.same {w w':World} {p:Pr} {bq bQ:Option Addr} (h:p.At w bq bQ) (hb:Below w.heap.size w w'):p.At w' bq bQ:=⟨h.1,h.2.1,h.2.2.1.same hb,h.2.2.2.same hb⟩
def aa2 (d:De):Int:=
 if d.kind == 1 then (if d.size == 0 then 2 else 3) else if d.kind == 2 then 2 else if d.kind == 3 then 4 else if d.kind == 4 then 5 else if d.kind == 5 then 6 else if d.kind == 6 then 7 else 9
def aa5 (ds:List De) (nm:ByteArray):Option Int:=(ds.find? fun d=>d.nm.toList == nm.toList).map aa2
def ZG (ts:List Th) (nm:ByteArray):Int:=if ts.any fun t=>t.nm.toList == nm.toList then 8 else 0
def Zk (ts:List Th) (i:Int):List ByteArray:=if 0≤i then ((ts[i.toNat]?).map (·.cB)).getD [] else []
def Zu (l:List ByteArray) (nm:ByteArray):Bool:=l.any fun s=>s.toList == nm.toList
def mean (p:Pr) (i:Int) (nm:ByteArray):Int:=if Zu (Zk p.ts i) nm then 1 else (aa5 p.ds nm).getD (ZG p.ts nm)
end Md
end Go.Proofs.YtehnipchbmjlhaaGreatDoor
end
section
namespace Go.Proofs.YtehnipchbmjlhaaGreatDoor
open Go.RowKit
namespace Md
def fN (op:Int):Bool:=(op == 1 || (decide (4≤op) && decide (op≤6))) || (decide (9≤op) && decide (op≤15))
def fA (op:Int):Bool:=op == 15
def fI (op:Int):Bool:=op == 1
def fX (op:Int):Bool:=(op == 1 || op == 2) || (op == 3 || op == 14)
def fB (op:Int):Bool:=decide (2≤op) && decide (op≤8)
def fE (op:Int):Bool:=op == 2
def fO (op:Int):Bool:=decide (1≤op) && decide (op≤15)
def oL (op n:Int) (nm:ByteArray) (len:Nat):Bool:=((op == 0 && n == 0) && nm.toList.isEmpty) && len == 0
def gT (d:De):Bool:=(((decide (1≤d.kind) && decide (d.kind≤6)) && Tk.dQ d.nm.data.toList) && (decide (0≤d.size) && (d.size == 0 || d.kind == 1))) && (((d.init != -9223372036854775808) && (d.init == 0 || (d.kind == 1 || d.kind == 2))) && iT d.on (d.kind == 5))
def iy (h:aW) (bl el:Nat):Bool:=
 ((fO h.op && (iT h.nm (fN h.op) && iT h.arg (fA h.op))) && ((decide (h.idx.len≤1) && (!(h.idx.len == 1) || fI h.op)) && gZ h.idx)) &&
   ((if fX h.op then dI h.bM h.xn h.bP h.aJ else oL h.bM h.xn h.bP h.aJ.len) && ((fB h.op || bl == 0) && (fE h.op || el == 0)))
def gy:aI→Bool
 | .nil=>true
 | .cons h b e r=>(iy h b.len e.len && (gy b && gy e)) && gy r
def tu (h:aW) (b e:aI):Bool:=iy h b.len e.len && (gy b && gy e)
theorem zh (h:aW) (b e r:aI):gy (.cons h b e r)=(tu h b e && gy r):=rfl
def jM (t:Th):Bool:=(Tk.dQ t.nm.data.toList && t.cB.all fun s=>Tk.dQ s.data.toList) && gy t.body
def sZ (p:Pr):Bool:=(p.ds.all gT && p.ts.all jM) && decide ((0:Int) < p.ts.length)
end Md
open Md
namespace Md
structure Sl where
 eP:Option Addr
 dK:Nat
 dJ:Option Addr
 bS:Nat
 bR:Option Addr
 aZ:Nat
 dY:Option Addr
 dA:Nat
def eB (h:aW) (b e:aI) (s:Sl):Value:= .agg #[.int .i64 h.op,.int .i64 h.line,.string h.nm,.string h.arg,.slice s.eP h.idx.len s.dK,.int .i64 h.bM,.int .i64 h.xn,.string h.bP,.slice s.dJ h.aJ.len s.bS,.slice s.bR b.len s.aZ,.slice s.dY e.len s.dA]
def Oe (n:Nat) (h:aW) (b e:aI) (s:Sl) (fs:List (Nat × Nat × Value)):List (Nat × Nat × Value):=
 (n,0,.int .i64 h.op) ::(n,1,.int .i64 h.line) ::(n,2,.string h.nm) ::(n,3,.string h.arg) ::(n,4,.slice s.eP h.idx.len s.dK) ::(n,5,.int .i64 h.bM) ::(n,6,.int .i64 h.xn) ::(n,7,.string h.bP) ::(n,8,.slice s.dJ h.aJ.len s.bS) ::(n,9,.slice s.bR b.len s.aZ) ::(n,10,.slice s.dY e.len s.dA) ::fs
def Ba (w:World) (h:aW) (b e:aI) (s:Sl):Prop:=oD h b e∧h.idx.At w w.heap.size s.eP 0∧h.aJ.At w w.heap.size s.dJ 0∧b.At w w.heap.size s.bR 0∧e.At w w.heap.size s.dY 0
theorem Ba.same {w w':World} {h:aW} {b e:aI} {s:Sl} (hi:Ba w h b e s) (hb:Below w.heap.size w w'):Ba w' h b e s:=
 ⟨hi.1,hi.2.1.same hb,hi.2.2.1.same hb,hi.2.2.2.1.same hb,hi.2.2.2.2.same hb⟩
theorem aI.At.head {w:World} {h:aW} {b e r:aI} {ao:Option Addr} {k:Nat} (hat:(aI.cons h b e r).At w w.heap.size ao k): ∃bl off s,ao=some ⟨bl,off,none⟩∧bl < w.heap.size∧Ba w h b e s∧
 w.cell? ⟨bl,off + k * 11,none⟩=some (.int .i64 h.op)∧w.cell? ⟨bl,off + k * 11 + 1,none⟩=some (.int .i64 h.line)∧w.cell? ⟨bl,off + k * 11 + 2,none⟩=some (.string h.nm)∧w.cell? ⟨bl,off + k * 11 + 3,none⟩=some (.string h.arg)∧w.cell? ⟨bl,off + k * 11 + 4,none⟩=some (.slice s.eP h.idx.len s.dK)∧
 w.cell? ⟨bl,off + k * 11 + 5,none⟩=some (.int .i64 h.bM)∧w.cell? ⟨bl,off + k * 11 + 6,none⟩=some (.int .i64 h.xn)∧w.cell? ⟨bl,off + k * 11 + 7,none⟩=some (.string h.bP)∧w.cell? ⟨bl,off + k * 11 + 8,none⟩=some (.slice s.dJ h.aJ.len s.bS)∧
 w.cell? ⟨bl,off + k * 11 + 9,none⟩=some (.slice s.bR b.len s.aZ)∧w.cell? ⟨bl,off + k * 11 + 10,none⟩=some (.slice s.dY e.len s.dA)∧r.At w w.heap.size ao (k + 1):=by
 obtain ⟨⟨b,off,eP,dK,dJ,bS,bR,aZ,dY,dA,e,hB,c0,c1,c2,c3,c4,c5,c6,c7,c8,c9,c10,hok,h1,h2,h3,h4⟩,hr⟩:=hat
 exact ⟨b,off,⟨eP,dK,dJ,bS,bR,aZ,dY,dA⟩,e,hB,⟨hok,h1,h2,h3,h4⟩,c0,c1,c2,c3,c4,c5,c6,c7,c8,c9,c10,hr⟩
end Md
theorem VW (n:Nat):decide ((n:Int)≤1)=decide (n≤1):=by rw [decide_eq_decide]; omega
theorem Uz (n:Nat):decide ((n:Int)=1)=(n == 1):=by rw [Bool.eq_iff_iff,decide_eq_true_iff,beq_iff_eq]; omega
theorem Lh (n:Nat):decide ((n:Int)≤0)=(n == 0):=by rw [Bool.eq_iff_iff,decide_eq_true_iff,beq_iff_eq]; omega
end Go.Proofs.YtehnipchbmjlhaaGreatDoor
end
