/-
  Expressions as data, and what it is that a row of them lies in memory. No program in sight.
  Regions that draw their order and only read; callees there may make memory.
  Programs as data, and what it is that they lie in memory. No program text in sight.
  What it is that a program is shaped, and statements as values. No program text in sight.
-/
import Derived.Test.YtnknfoibmgphnaaDoorGA
import Derived.WalkSmall
import Derived.Deep.QuietTactic
import Derived.BigQuiet
import Derived.Deep.DeepCutAuto
section
namespace Go.Proofs.YtnknfoibmgphnaaDoor
open Go.RowKit
theorem dz (w:World) (cs:List Value) (t:TypeId) (j:Nat):(w.alloc (.cells cs.toArray t)).cell? ⟨w.heap.size,j,none⟩=cs[j]?:=Br w cs t j
def oP (w W:World) (a b c d:Value):Prop:=
 Below w.heap.size w W∧w.heap.size < W.heap.size∧W.cell? ⟨w.heap.size,0,none⟩=some a∧W.cell? ⟨w.heap.size,1,none⟩=some b∧W.cell? ⟨w.heap.size,2,none⟩=some c∧W.cell? ⟨w.heap.size,3,none⟩=some d
theorem oP.mk {w W:World} {a b c d:Value} {t:TypeId} (h:w.alloc (.cells #[a,b,c,d] t)=W):oP w W a b c d:=by
 subst h
 exact ⟨(Below.refl _ _).alloc (Nat.le_refl _) _,by simp,dz w [a,b,c,d] t 0,dz w [a,b,c,d] t 1,dz w [a,b,c,d] t 2,dz w [a,b,c,d] t 3⟩
theorem oP.next {w W W':World} {a b c d:Value} (h:oP w W a b c d) (hb:Below W.heap.size W W'):oP w W' a b c d:=by
 obtain ⟨h0,hs,c0,c1,c2,c3⟩:=h
 exact ⟨h0.trans (hb.mono h0.size),Nat.lt_of_lt_of_le hs hb.size,(hb.cell hs).trans c0,(hb.cell hs).trans c1,(hb.cell hs).trans c2,(hb.cell hs).trans c3⟩
theorem oP.draws {w W:World} {a b c d:Value} (h:oP w W a b c d) (n:Nat):oP w (W.drewN n) a b c d:=h.next (below_drewN (Below.refl _ _) n)
namespace Md
def aX (n:Int):Prop:= -9223372036854775808≤n∧n≤9223372036854775807
inductive bJ where
 | nil
 | cons (op n:Int) (nm:ByteArray) (kids rest:bJ)
def bJ.len:bJ→Nat
 | .nil=>0
 | .cons _ _ _ _ r=>r.len + 1
def lI (op n:Int) (nm:ByteArray) (kids:bJ):Prop:=aX op∧aX n∧nm.size≤maxLen∧kids.len≤maxLen
def bJ.At (w:World) (B:Nat):bJ→Option Addr→Nat→Prop
 | .nil,_,_=>True
 | .cons op n nm kids rest,ao,k=>
   (∃b off jO cap,ao=some ⟨b,off,none⟩∧b < B∧w.cell? ⟨b,off + k * 4,none⟩=some (.int .i64 op)∧w.cell? ⟨b,off + k * 4 + 1,none⟩=some (.int .i64 n)∧
    w.cell? ⟨b,off + k * 4 + 2,none⟩=some (.string nm)∧w.cell? ⟨b,off + k * 4 + 3,none⟩=some (.slice jO kids.len cap)∧lI op n nm kids∧kids.At w B jO 0)∧
   rest.At w B ao (k + 1)
theorem bJ.At.below {w w':World} {B:Nat} (hb:Below B w w'): ∀ {l:bJ} {ao:Option Addr} {k:Nat},l.At w B ao k→l.At w' B ao k
 | .nil,_,_,_=>trivial
 | .cons _ _ _ _ _,_,_,h=>by
   obtain ⟨⟨b,off,jO,cap,e,hB,c0,c1,c2,c3,hok,hk⟩,hr⟩:=h
   exact ⟨⟨b,off,jO,cap,e,hB,(hb.cell hB).trans c0,(hb.cell hB).trans c1,(hb.cell hB).trans c2,(hb.cell hB).trans c3,hok,hk.below hb⟩,hr.below hb⟩
theorem bJ.At.mono {w:World} {B B':Nat} (hB':B≤B'): ∀ {l:bJ} {ao:Option Addr} {k:Nat},l.At w B ao k→l.At w B' ao k
 | .nil,_,_,_=>trivial
 | .cons _ _ _ _ _,_,_,h=>by
   obtain ⟨⟨b,off,jO,cap,e,hB,c0,c1,c2,c3,hok,hk⟩,hr⟩:=h
   exact ⟨⟨b,off,jO,cap,e,Nat.lt_of_lt_of_le hB hB',c0,c1,c2,c3,hok,hk.mono hB'⟩,hr.mono hB'⟩
theorem bJ.At.same {w w':World} {l:bJ} {ao:Option Addr} {k:Nat} (h:l.At w w.heap.size ao k) (hb:Below w.heap.size w w'):l.At w' w'.heap.size ao k:=
 (h.below hb).mono hb.size
def bJ.All (Q:Int→Int→ByteArray→bJ→Prop):bJ→Prop
 | .nil=>True
 | .cons op n nm kids rest=>Q op n nm kids∧rest.All Q
theorem bJ.lM {Q:Int→Int→ByteArray→bJ→Prop} (step: ∀op n nm kids,kids.All Q→Q op n nm kids): ∀l:bJ,l.All Q
 | .nil=>trivial
 | .cons op n nm kids rest=>⟨step op n nm kids (lM step kids),lM step rest⟩
theorem bJ.uy {Q:Int→Int→ByteArray→bJ→Prop} (step: ∀op n nm kids,kids.All Q→Q op n nm kids) (op n:Int) (nm:ByteArray) (kids:bJ):Q op n nm kids:=
 step op n nm kids (bJ.lM step kids)
def opsOf (op:Int):Int:=if op == 1 || op == 2 then 0 else if op == 3 || op == 4 || op == 5 then 1 else if decide (6≤op) && decide (op≤18) then 2 else -1
def named (op:Int):Bool:=op == 2 || op == 3
def ji (nm:ByteArray) (b:Bool):Bool:=if b then Tk.iM nm.data.toList else nm.data.toList.isEmpty
def zq (op n:Int) (nm:ByteArray) (len:Nat):Bool:=((len:Int) == opsOf op) && (!(decide (n < 0) || (!(n == 0) && !(op == 1))) && ji nm (named op))
def kD:bJ→Bool
 | .nil=>true
 | .cons op n nm kids rest=>(zq op n nm kids.len && kD kids) && kD rest
def jN (op n:Int) (nm:ByteArray) (kids:bJ):Bool:=zq op n nm kids.len && kD kids
end Md
end Go.Proofs.YtnknfoibmgphnaaDoor
end
section
namespace Go.Proofs.YtnknfoibmgphnaaDoor
open Go.RowKit
open Md
theorem mK {P:Program} {f:FuncId} {args:Array Value} {w:World} {n:Nat} {v:Value} (h:Calls P f args (w.drewN n) fun e w'=>e= .returned v∧w.drewN n=w'):
 Calls P f args (w.drewN n) fun e w''=>e= .returned v∧ ∃m,w''=w.drewN m:=h.mono fun _ _ ⟨he,hm⟩=>⟨he,n,hm.symm⟩
theorem gF {P:Program} {id:Nat} {Q:Exit→Act→World→Prop} {a:Act} {w:World} {l:List Oper} {T:Type} (F:T→World) (hm:P.follows .mixedOrders=true) (hB:Region.lexB .any l.toArray=true)
 (h1: ∃x,w.drewN 1=F x) (h:wpQuiet P l.toArray (fun w'=> ∃x,w'=F x) (fun a'=> ∀w',(∃x,w'=F x)→Q .normal a' w') l a):(Code.region id l.toArray true).wp P Q a w:=
 wp_region_quiet (C:=fun w'=> ∃x,w'=F x) hm hB h1 (by simpa using h)
theorem calm (W:World): ∃(T:Type) (F:T→World),Nonempty T∧(∃x,W.drewN 1=F x)∧(∀x,Below W.heap.size W (F x))∧ ∀x w',Below (F x).heap.size (F x) w'→ ∃y,w'=F y:=
 ⟨{W' // Below W.heap.size W W'},Subtype.val,⟨⟨_,Below.refl _ _⟩⟩,⟨⟨_,below_drewN (Below.refl _ _) 1⟩,rfl⟩,fun x=>x.2,fun x w' hb=>⟨⟨w',x.2.trans (hb.mono x.2.size)⟩,rfl⟩⟩
end Go.Proofs.YtnknfoibmgphnaaDoor
end
section
namespace Go.Proofs.YtnknfoibmgphnaaDoor
open Go.RowKit
def Holds (W:World):List (Nat × Nat × Value)→Prop
 | []=>True
 | f ::r=>(f.1 < W.heap.size∧W.cell? ⟨f.1,f.2.1,none⟩=some f.2.2)∧Holds W r
theorem Holds.next {W W':World} (hb:Below W.heap.size W W'): ∀ {l:List (Nat × Nat × Value)},Holds W l→Holds W' l
 | [],_=>trivial
 | _ ::_,⟨⟨h1,h2⟩,h3⟩=>⟨⟨Nat.lt_of_lt_of_le h1 hb.size,(hb.cell h1).trans h2⟩,h3.next hb⟩
def Sit (w W:World) (fs:List (Nat × Nat × Value)):Prop:=Below w.heap.size w W∧Holds W fs
theorem Sit.start (w:World):Sit w w []:=⟨Below.refl _ _,trivial⟩
theorem Sit.next {w W W':World} {fs:List (Nat × Nat × Value)} (h:Sit w W fs) (hb:Below W.heap.size W W'):Sit w W' fs:=
 ⟨h.1.trans (hb.mono h.1.size),h.2.next hb⟩
theorem Sit.draws {w W:World} {fs:List (Nat × Nat × Value)} (h:Sit w W fs) (n:Nat):Sit w (W.drewN n) fs:=h.next (below_drewN (Below.refl _ _) n)
theorem ay (W:World) (o:Obj):Below W.heap.size W (W.alloc o):=(Below.refl _ _).alloc (Nat.le_refl _) _
theorem Sit.kC {w W:World} {fs:List (Nat × Nat × Value)} {n:Nat} (h:Sit w W fs) (hn:W.heap.size=n) (a b:Value) (t:TypeId):
 Sit w (W.alloc (.cells #[a,b] t)) ((n,0,a) ::(n,1,b) ::fs):=by
 subst hn
 exact ⟨(h.next (ay _ _)).1,⟨by simp,dz W [a,b] t 0⟩,⟨by simp,dz W [a,b] t 1⟩,(h.next (ay _ _)).2⟩
theorem Sit.qX {w W:World} {fs:List (Nat × Nat × Value)} {n:Nat} (h:Sit w W fs) (hn:W.heap.size=n) (a b c d:Value) (t:TypeId):
 Sit w (W.alloc (.cells #[a,b,c,d] t)) ((n,0,a) ::(n,1,b) ::(n,2,c) ::(n,3,d) ::fs):=by
 subst hn
 exact ⟨(h.next (ay _ _)).1,⟨by simp,dz W [a,b,c,d] t 0⟩,⟨by simp,dz W [a,b,c,d] t 1⟩,⟨by simp,dz W [a,b,c,d] t 2⟩,⟨by simp,dz W [a,b,c,d] t 3⟩,(h.next (ay _ _)).2⟩
theorem Sit.Et {w W:World} {fs:List (Nat × Nat × Value)} {n:Nat} (h:Sit w W fs) (hn:W.heap.size=n) (a b c d e f:Value) (t:TypeId):
 Sit w (W.alloc (.cells #[a,b,c,d,e,f] t)) ((n,0,a) ::(n,1,b) ::(n,2,c) ::(n,3,d) ::(n,4,e) ::(n,5,f) ::fs):=by
 subst hn
 exact ⟨(h.next (ay _ _)).1,⟨by simp,dz W [a,b,c,d,e,f] t 0⟩,⟨by simp,dz W [a,b,c,d,e,f] t 1⟩,⟨by simp,dz W [a,b,c,d,e,f] t 2⟩,⟨by simp,dz W [a,b,c,d,e,f] t 3⟩,⟨by simp,dz W [a,b,c,d,e,f] t 4⟩,⟨by simp,dz W [a,b,c,d,e,f] t 5⟩,(h.next (ay _ _)).2⟩
theorem Sit.gZ {w W:World} {fs:List (Nat × Nat × Value)} {n:Nat} (hs:Sit w W fs) (hn:W.heap.size=n) (a b c d e f g h i j k:Value) (t:TypeId):
 Sit w (W.alloc (.cells #[a,b,c,d,e,f,g,h,i,j,k] t)) ((n,0,a) ::(n,1,b) ::(n,2,c) ::(n,3,d) ::(n,4,e) ::(n,5,f) ::(n,6,g) ::(n,7,h) ::(n,8,i) ::(n,9,j) ::(n,10,k) ::fs):=by
 subst hn
 exact ⟨(hs.next (ay _ _)).1,⟨by simp,dz W [a,b,c,d,e,f,g,h,i,j,k] t 0⟩,⟨by simp,dz W [a,b,c,d,e,f,g,h,i,j,k] t 1⟩,⟨by simp,dz W [a,b,c,d,e,f,g,h,i,j,k] t 2⟩,⟨by simp,dz W [a,b,c,d,e,f,g,h,i,j,k] t 3⟩,⟨by simp,dz W [a,b,c,d,e,f,g,h,i,j,k] t 4⟩,⟨by simp,dz W [a,b,c,d,e,f,g,h,i,j,k] t 5⟩,⟨by simp,dz W [a,b,c,d,e,f,g,h,i,j,k] t 6⟩,⟨by simp,dz W [a,b,c,d,e,f,g,h,i,j,k] t 7⟩,⟨by simp,dz W [a,b,c,d,e,f,g,h,i,j,k] t 8⟩,⟨by simp,dz W [a,b,c,d,e,f,g,h,i,j,k] t 9⟩,⟨by simp,dz W [a,b,c,d,e,f,g,h,i,j,k] t 10⟩,(hs.next (ay _ _)).2⟩
namespace Md
structure De where
 kind:Int
 line:Int
 nm:ByteArray
 size:Int
 init:Int
 on:ByteArray
def De.Ok (d:De):Prop:=aX d.kind∧aX d.line∧d.nm.size≤maxLen∧aX d.size∧aX d.init∧d.on.size≤maxLen
structure eH where
 op:Int
 line:Int
 nm:ByteArray
 arg:ByteArray
 idx:bJ
 dU:Int
 xn:Int
 dV:ByteArray
 bq:bJ
inductive aR where
 | nil
 | cons (h:eH) (body els rest:aR)
def aR.len:aR→Nat
 | .nil=>0
 | .cons _ _ _ r=>r.len + 1
def aR.All (Q:eH→aR→aR→Prop):aR→Prop
 | .nil=>True
 | .cons h b e r=>Q h b e∧r.All Q
theorem aR.lM {Q:eH→aR→aR→Prop} (step: ∀h b e,b.All Q→e.All Q→Q h b e): ∀l:aR,l.All Q
 | .nil=>trivial
 | .cons h b e r=>⟨step h b e (lM step b) (lM step e),lM step r⟩
theorem aR.uy {Q:eH→aR→aR→Prop} (step: ∀h b e,b.All Q→e.All Q→Q h b e) (h:eH) (b e:aR):Q h b e:=
 step h b e (aR.lM step b) (aR.lM step e)
structure Th where
 nm:ByteArray
 line:Int
 bH:List ByteArray
 body:aR
def iD (w:World) (B:Nat):List ByteArray→Option Addr→Nat→Prop
 | [],_,_=>True
 | s ::r,ao,k=>(∃b off,ao=some ⟨b,off,none⟩∧b < B∧w.cell? ⟨b,off + k,none⟩=some (.string s)∧s.size≤maxLen)∧iD w B r ao (k + 1)
def iZ (w:World) (B:Nat):List De→Option Addr→Nat→Prop
 | [],_,_=>True
 | d ::r,ao,k=>(∃b off,ao=some ⟨b,off,none⟩∧b < B∧w.cell? ⟨b,off + k * 6,none⟩=some (.int .i64 d.kind)∧w.cell? ⟨b,off + k * 6 + 1,none⟩=some (.int .i64 d.line)∧
     w.cell? ⟨b,off + k * 6 + 2,none⟩=some (.string d.nm)∧w.cell? ⟨b,off + k * 6 + 3,none⟩=some (.int .i64 d.size)∧w.cell? ⟨b,off + k * 6 + 4,none⟩=some (.int .i64 d.init)∧
     w.cell? ⟨b,off + k * 6 + 5,none⟩=some (.string d.on)∧d.Ok)∧iZ w B r ao (k + 1)
def ko (h:eH) (body els:aR):Prop:=
 aX h.op∧aX h.line∧h.nm.size≤maxLen∧h.arg.size≤maxLen∧h.idx.len≤maxLen∧lI h.dU h.xn h.dV h.bq∧body.len≤maxLen∧els.len≤maxLen
def aR.At (w:World) (B:Nat):aR→Option Addr→Nat→Prop
 | .nil,_,_=>True
 | .cons h body els rest,ao,k=>
   (∃b off fU eG dW cB bg aT eY dP,ao=some ⟨b,off,none⟩∧b < B∧w.cell? ⟨b,off + k * 11,none⟩=some (.int .i64 h.op)∧w.cell? ⟨b,off + k * 11 + 1,none⟩=some (.int .i64 h.line)∧
    w.cell? ⟨b,off + k * 11 + 2,none⟩=some (.string h.nm)∧w.cell? ⟨b,off + k * 11 + 3,none⟩=some (.string h.arg)∧w.cell? ⟨b,off + k * 11 + 4,none⟩=some (.slice fU h.idx.len eG)∧
    w.cell? ⟨b,off + k * 11 + 5,none⟩=some (.int .i64 h.dU)∧w.cell? ⟨b,off + k * 11 + 6,none⟩=some (.int .i64 h.xn)∧w.cell? ⟨b,off + k * 11 + 7,none⟩=some (.string h.dV)∧w.cell? ⟨b,off + k * 11 + 8,none⟩=some (.slice dW h.bq.len cB)∧
    w.cell? ⟨b,off + k * 11 + 9,none⟩=some (.slice bg body.len aT)∧w.cell? ⟨b,off + k * 11 + 10,none⟩=some (.slice eY els.len dP)∧ko h body els∧
    h.idx.At w B fU 0∧h.bq.At w B dW 0∧body.At w B bg 0∧els.At w B eY 0)∧rest.At w B ao (k + 1)
def Th.Ok (t:Th):Prop:=t.nm.size≤maxLen∧aX t.line∧t.bH.length≤maxLen∧t.body.len≤maxLen
def iy (w:World) (B:Nat):List Th→Option Addr→Nat→Prop
 | [],_,_=>True
 | t ::r,ao,k=>(∃b off iQ gy bg aT,ao=some ⟨b,off,none⟩∧b < B∧w.cell? ⟨b,off + k * 4,none⟩=some (.string t.nm)∧w.cell? ⟨b,off + k * 4 + 1,none⟩=some (.int .i64 t.line)∧
     w.cell? ⟨b,off + k * 4 + 2,none⟩=some (.slice iQ t.bH.length gy)∧w.cell? ⟨b,off + k * 4 + 3,none⟩=some (.slice bg t.body.len aT)∧t.Ok∧iD w B t.bH iQ 0∧t.body.At w B bg 0∧t.bH.length≤gy)∧iy w B r ao (k + 1)
section
variable {w w':World} {B B':Nat}
theorem iD.below (hb:Below B w w'): ∀ {l:List ByteArray} {ao:Option Addr} {k:Nat},iD w B l ao k→iD w' B l ao k
 | [],_,_,_=>trivial
 | _ ::_,_,_,⟨⟨b,off,e,hB,c,hs⟩,hr⟩=>⟨⟨b,off,e,hB,(hb.cell hB).trans c,hs⟩,iD.below hb hr⟩
theorem iD.mono (h:B≤B'): ∀ {l:List ByteArray} {ao:Option Addr} {k:Nat},iD w B l ao k→iD w B' l ao k
 | [],_,_,_=>trivial
 | _ ::_,_,_,⟨⟨b,off,e,hB,c,hs⟩,hr⟩=>⟨⟨b,off,e,Nat.lt_of_lt_of_le hB h,c,hs⟩,iD.mono h hr⟩
theorem iD.same {l:List ByteArray} {ao:Option Addr} {k:Nat} (h:iD w w.heap.size l ao k) (hb:Below w.heap.size w w'):iD w' w'.heap.size l ao k:=(h.below hb).mono hb.size
theorem iD.drop: ∀ {l:List ByteArray} {ao:Option Addr} {k:Nat} (i:Nat),iD w B l ao k→iD w B (l.drop i) ao (k + i)
 | _,_,_,0,h=>h
 | [],_,_,_ + 1,_=>by simp [iD]
 | _ ::_,_,k,i + 1,⟨_,hr⟩=>by have:=iD.drop i hr; rw [List.drop_succ_cons]; rwa [Nat.add_assoc,Nat.add_comm 1 i] at this
theorem iZ.below (hb:Below B w w'): ∀ {l:List De} {ao:Option Addr} {k:Nat},iZ w B l ao k→iZ w' B l ao k
 | [],_,_,_=>trivial
 | _ ::_,_,_,⟨⟨b,off,e,hB,c0,c1,c2,c3,c4,c5,hs⟩,hr⟩=>⟨⟨b,off,e,hB,(hb.cell hB).trans c0,(hb.cell hB).trans c1,(hb.cell hB).trans c2,(hb.cell hB).trans c3,(hb.cell hB).trans c4,(hb.cell hB).trans c5,hs⟩,iZ.below hb hr⟩
theorem iZ.mono (h:B≤B'): ∀ {l:List De} {ao:Option Addr} {k:Nat},iZ w B l ao k→iZ w B' l ao k
 | [],_,_,_=>trivial
 | _ ::_,_,_,⟨⟨b,off,e,hB,c⟩,hr⟩=>⟨⟨b,off,e,Nat.lt_of_lt_of_le hB h,c⟩,iZ.mono h hr⟩
theorem iZ.same {l:List De} {ao:Option Addr} {k:Nat} (h:iZ w w.heap.size l ao k) (hb:Below w.heap.size w w'):iZ w' w'.heap.size l ao k:=(h.below hb).mono hb.size
theorem iZ.drop: ∀ {l:List De} {ao:Option Addr} {k:Nat} (i:Nat),iZ w B l ao k→iZ w B (l.drop i) ao (k + i)
 | _,_,_,0,h=>h
 | [],_,_,_ + 1,_=>by simp [iZ]
 | _ ::_,_,k,i + 1,⟨_,hr⟩=>by have:=iZ.drop i hr; rw [List.drop_succ_cons]; rwa [Nat.add_assoc,Nat.add_comm 1 i] at this
theorem iD.take: ∀ {pre R:List ByteArray} {ao:Option Addr} {k:Nat},iD w B (pre++R) ao k→iD w B pre ao k
 | [],_,_,_,_=>trivial
 | _ ::_,_,_,_,h=>⟨h.1,iD.take h.2⟩
theorem iZ.take: ∀ {pre R:List De} {ao:Option Addr} {k:Nat},iZ w B (pre++R) ao k→iZ w B pre ao k
 | [],_,_,_,_=>trivial
 | _ ::_,_,_,_,h=>⟨h.1,iZ.take h.2⟩
theorem aR.At.below (hb:Below B w w'): ∀ {l:aR} {ao:Option Addr} {k:Nat},l.At w B ao k→l.At w' B ao k
 | .nil,_,_,_=>trivial
 | .cons _ _ _ _,_,_,h=>by
   obtain ⟨⟨b,off,fU,eG,dW,cB,bg,aT,eY,dP,e,hB,c0,c1,c2,c3,c4,c5,c6,c7,c8,c9,c10,hok,h1,h2,h3,h4⟩,hr⟩:=h
   exact ⟨⟨b,off,fU,eG,dW,cB,bg,aT,eY,dP,e,hB,(hb.cell hB).trans c0,(hb.cell hB).trans c1,(hb.cell hB).trans c2,(hb.cell hB).trans c3,(hb.cell hB).trans c4,(hb.cell hB).trans c5,(hb.cell hB).trans c6,(hb.cell hB).trans c7,(hb.cell hB).trans c8,(hb.cell hB).trans c9,(hb.cell hB).trans c10,hok,h1.below hb,h2.below hb,h3.below hb,h4.below hb⟩,hr.below hb⟩
theorem aR.At.mono (h:B≤B'): ∀ {l:aR} {ao:Option Addr} {k:Nat},l.At w B ao k→l.At w B' ao k
 | .nil,_,_,_=>trivial
 | .cons _ _ _ _,_,_,h'=>by
   obtain ⟨⟨b,off,fU,eG,dW,cB,bg,aT,eY,dP,e,hB,c0,c1,c2,c3,c4,c5,c6,c7,c8,c9,c10,hok,h1,h2,h3,h4⟩,hr⟩:=h'
   exact ⟨⟨b,off,fU,eG,dW,cB,bg,aT,eY,dP,e,Nat.lt_of_lt_of_le hB h,c0,c1,c2,c3,c4,c5,c6,c7,c8,c9,c10,hok,h1.mono h,h2.mono h,h3.mono h,h4.mono h⟩,hr.mono h⟩
theorem aR.At.same {l:aR} {ao:Option Addr} {k:Nat} (h:l.At w w.heap.size ao k) (hb:Below w.heap.size w w'):l.At w' w'.heap.size ao k:=(h.below hb).mono hb.size
theorem iy.below (hb:Below B w w'): ∀ {l:List Th} {ao:Option Addr} {k:Nat},iy w B l ao k→iy w' B l ao k
 | [],_,_,_=>trivial
 | _ ::_,_,_,⟨⟨b,off,iQ,gy,bg,aT,e,hB,c0,c1,c2,c3,hs,ht,hst⟩,hr⟩=>⟨⟨b,off,iQ,gy,bg,aT,e,hB,(hb.cell hB).trans c0,(hb.cell hB).trans c1,(hb.cell hB).trans c2,(hb.cell hB).trans c3,hs,ht.below hb,hst.1.below hb,hst.2⟩,iy.below hb hr⟩
theorem iy.mono (h:B≤B'): ∀ {l:List Th} {ao:Option Addr} {k:Nat},iy w B l ao k→iy w B' l ao k
 | [],_,_,_=>trivial
 | _ ::_,_,_,⟨⟨b,off,iQ,gy,bg,aT,e,hB,c0,c1,c2,c3,hs,ht,hst⟩,hr⟩=>⟨⟨b,off,iQ,gy,bg,aT,e,Nat.lt_of_lt_of_le hB h,c0,c1,c2,c3,hs,ht.mono h,hst.1.mono h,hst.2⟩,iy.mono h hr⟩
theorem iy.same {l:List Th} {ao:Option Addr} {k:Nat} (h:iy w w.heap.size l ao k) (hb:Below w.heap.size w w'):iy w' w'.heap.size l ao k:=(h.below hb).mono hb.size
theorem iy.drop: ∀ {l:List Th} {ao:Option Addr} {k:Nat} (i:Nat),iy w B l ao k→iy w B (l.drop i) ao (k + i)
 | _,_,_,0,h=>h
 | [],_,_,_ + 1,_=>by simp [iy]
 | _ ::_,_,k,i + 1,⟨_,hr⟩=>by have:=iy.drop i hr; rw [List.drop_succ_cons]; rwa [Nat.add_assoc,Nat.add_comm 1 i] at this
theorem iy.take: ∀ {pre R:List Th} {ao:Option Addr} {k:Nat},iy w B (pre++R) ao k→iy w B pre ao k
 | [],_,_,_,_=>trivial
 | _ ::_,_,_,_,h=>⟨h.1,iy.take h.2⟩
end
structure Pr where
 ds:List De
 ts:List Th
def Pr.At (w:World) (p:Pr) (aC aF:Option Addr):Prop:=p.ds.length≤maxLen∧p.ts.length≤maxLen∧iZ w w.heap.size p.ds aC 0∧iy w w.heap.size p.ts aF 0
theorem Pr.At.same {w w':World} {p:Pr} {aC aF:Option Addr} (h:p.At w aC aF) (hb:Below w.heap.size w w'):p.At w' aC aF:=⟨h.1,h.2.1,h.2.2.1.same hb,h.2.2.2.same hb⟩
def fu (d:De):Int:=
 if d.kind == 1 then (if d.size == 0 then 2 else 3) else if d.kind == 2 then 2 else if d.kind == 3 then 4 else if d.kind == 4 then 5 else if d.kind == 5 then 6 else if d.kind == 6 then 7 else 9
def lg (ds:List De) (nm:ByteArray):Option Int:=(ds.find? fun d=>d.nm.toList == nm.toList).map fu
def lV (ts:List Th) (nm:ByteArray):Int:=if ts.any fun t=>t.nm.toList == nm.toList then 8 else 0
def jQ (ts:List Th) (i:Int):List ByteArray:=if 0≤i then ((ts[i.toNat]?).map (·.bH)).getD [] else []
def lW (l:List ByteArray) (nm:ByteArray):Bool:=l.any fun s=>s.toList == nm.toList
def mean (p:Pr) (i:Int) (nm:ByteArray):Int:=if lW (jQ p.ts i) nm then 1 else (lg p.ds nm).getD (lV p.ts nm)
end Md
end Go.Proofs.YtnknfoibmgphnaaDoor
end
section
namespace Go.Proofs.YtnknfoibmgphnaaDoor
open Go.RowKit
namespace Md
def fN (op:Int):Bool:=(op == 1 || (decide (4≤op) && decide (op≤6))) || (decide (9≤op) && decide (op≤15))
def fA (op:Int):Bool:=op == 15
def fI (op:Int):Bool:=op == 1
def fX (op:Int):Bool:=(op == 1 || op == 2) || (op == 3 || op == 14)
def fB (op:Int):Bool:=decide (2≤op) && decide (op≤8)
def fE (op:Int):Bool:=op == 2
def fO (op:Int):Bool:=decide (1≤op) && decide (op≤15)
def nR (op n:Int) (nm:ByteArray) (len:Nat):Bool:=((op == 0 && n == 0) && nm.toList.isEmpty) && len == 0
def jw (d:De):Bool:=(((decide (1≤d.kind) && decide (d.kind≤6)) && Tk.iM d.nm.data.toList) && (decide (0≤d.size) && (d.size == 0 || d.kind == 1))) && (((d.init != -9223372036854775808) && (d.init == 0 || (d.kind == 1 || d.kind == 2))) && ji d.on (d.kind == 5))
def ru (h:eH) (bl el:Nat):Bool:=
 ((fO h.op && (ji h.nm (fN h.op) && ji h.arg (fA h.op))) && ((decide (h.idx.len≤1) && (!(h.idx.len == 1) || fI h.op)) && kD h.idx)) &&
   ((if fX h.op then jN h.dU h.xn h.dV h.bq else nR h.dU h.xn h.dV h.bq.len) && ((fB h.op || bl == 0) && (fE h.op || el == 0)))
def eP:aR→Bool
 | .nil=>true
 | .cons h b e r=>(ru h b.len e.len && (eP b && eP e)) && eP r
def uD (h:eH) (b e:aR):Bool:=ru h b.len e.len && (eP b && eP e)
theorem sI (h:eH) (b e r:aR):eP (.cons h b e r)=(uD h b e && eP r):=rfl
def kV (t:Th):Bool:=(Tk.iM t.nm.data.toList && t.bH.all fun s=>Tk.iM s.data.toList) && eP t.body
def lN (p:Pr):Bool:=(p.ds.all jw && p.ts.all kV) && decide ((0:Int) < p.ts.length)
end Md
open Md
namespace Md
structure Sl where
 fU:Option Addr
 eG:Nat
 dW:Option Addr
 cB:Nat
 bg:Option Addr
 aT:Nat
 eY:Option Addr
 dP:Nat
def aY (h:eH) (b e:aR) (s:Sl):Value:= .agg #[.int .i64 h.op,.int .i64 h.line,.string h.nm,.string h.arg,.slice s.fU h.idx.len s.eG,.int .i64 h.dU,.int .i64 h.xn,.string h.dV,.slice s.dW h.bq.len s.cB,.slice s.bg b.len s.aT,.slice s.eY e.len s.dP]
def iT (n:Nat) (h:eH) (b e:aR) (s:Sl) (fs:List (Nat × Nat × Value)):List (Nat × Nat × Value):=
 (n,0,.int .i64 h.op) ::(n,1,.int .i64 h.line) ::(n,2,.string h.nm) ::(n,3,.string h.arg) ::(n,4,.slice s.fU h.idx.len s.eG) ::(n,5,.int .i64 h.dU) ::(n,6,.int .i64 h.xn) ::(n,7,.string h.dV) ::(n,8,.slice s.dW h.bq.len s.cB) ::(n,9,.slice s.bg b.len s.aT) ::(n,10,.slice s.eY e.len s.dP) ::fs
def jE (w:World) (h:eH) (b e:aR) (s:Sl):Prop:=ko h b e∧h.idx.At w w.heap.size s.fU 0∧h.bq.At w w.heap.size s.dW 0∧b.At w w.heap.size s.bg 0∧e.At w w.heap.size s.eY 0
theorem jE.same {w w':World} {h:eH} {b e:aR} {s:Sl} (hi:jE w h b e s) (hb:Below w.heap.size w w'):jE w' h b e s:=
 ⟨hi.1,hi.2.1.same hb,hi.2.2.1.same hb,hi.2.2.2.1.same hb,hi.2.2.2.2.same hb⟩
theorem aR.At.head {w:World} {h:eH} {b e r:aR} {ao:Option Addr} {k:Nat} (hat:(aR.cons h b e r).At w w.heap.size ao k): ∃bl off s,ao=some ⟨bl,off,none⟩∧bl < w.heap.size∧jE w h b e s∧
 w.cell? ⟨bl,off + k * 11,none⟩=some (.int .i64 h.op)∧w.cell? ⟨bl,off + k * 11 + 1,none⟩=some (.int .i64 h.line)∧w.cell? ⟨bl,off + k * 11 + 2,none⟩=some (.string h.nm)∧w.cell? ⟨bl,off + k * 11 + 3,none⟩=some (.string h.arg)∧w.cell? ⟨bl,off + k * 11 + 4,none⟩=some (.slice s.fU h.idx.len s.eG)∧
 w.cell? ⟨bl,off + k * 11 + 5,none⟩=some (.int .i64 h.dU)∧w.cell? ⟨bl,off + k * 11 + 6,none⟩=some (.int .i64 h.xn)∧w.cell? ⟨bl,off + k * 11 + 7,none⟩=some (.string h.dV)∧w.cell? ⟨bl,off + k * 11 + 8,none⟩=some (.slice s.dW h.bq.len s.cB)∧
 w.cell? ⟨bl,off + k * 11 + 9,none⟩=some (.slice s.bg b.len s.aT)∧w.cell? ⟨bl,off + k * 11 + 10,none⟩=some (.slice s.eY e.len s.dP)∧r.At w w.heap.size ao (k + 1):=by
 obtain ⟨⟨b,off,fU,eG,dW,cB,bg,aT,eY,dP,e,hB,c0,c1,c2,c3,c4,c5,c6,c7,c8,c9,c10,hok,h1,h2,h3,h4⟩,hr⟩:=hat
 exact ⟨b,off,⟨fU,eG,dW,cB,bg,aT,eY,dP⟩,e,hB,⟨hok,h1,h2,h3,h4⟩,c0,c1,c2,c3,c4,c5,c6,c7,c8,c9,c10,hr⟩
end Md
theorem EU (n:Nat):decide ((n:Int)≤1)=decide (n≤1):=by rw [decide_eq_decide]; omega
theorem F5 (n:Nat):decide ((n:Int)=1)=(n == 1):=by rw [Bool.eq_iff_iff,decide_eq_true_iff,beq_iff_eq]; omega
theorem yD (n:Nat):decide ((n:Int)≤0)=(n == 0):=by rw [Bool.eq_iff_iff,decide_eq_true_iff,beq_iff_eq]; omega
end Go.Proofs.YtnknfoibmgphnaaDoor
end
