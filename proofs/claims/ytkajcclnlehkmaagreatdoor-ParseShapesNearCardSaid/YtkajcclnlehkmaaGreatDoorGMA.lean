/- Expressions as data, and what it is that a row of them lies in memory. No program in sight. And what hangs on it. -/
import Derived.Test.YtkajcclnlehkmaaGreatDoorGA
import Derived.WalkSmall
import Derived.Deep.QuietTactic
import Derived.BigQuiet
import Derived.Deep.DeepCutAuto
set_option linter.unusedSimpArgs false
set_option linter.unusedVariables false
set_option maxHeartbeats 40000000
set_option maxRecDepth 1000000
namespace Go.Proofs.YtkajcclnlehkmaaGreatDoor
open Go.RowKit
theorem bY (w:World) (cs:List Value) (t:TypeId) (j:Nat):(w.alloc (.cells cs.toArray t)).cell? ⟨w.heap.size,j,none⟩=cs[j]?:=AY w cs t j
def lN (w W:World) (a b c d:Value):Prop:=
 Below w.heap.size w W∧w.heap.size < W.heap.size∧W.cell? ⟨w.heap.size,0,none⟩=some a∧W.cell? ⟨w.heap.size,1,none⟩=some b∧W.cell? ⟨w.heap.size,2,none⟩=some c∧W.cell? ⟨w.heap.size,3,none⟩=some d
theorem lN.mk {w W:World} {a b c d:Value} {t:TypeId} (h:w.alloc (.cells #[a,b,c,d] t)=W):lN w W a b c d:=by
 subst h;exact ⟨(Below.refl _ _).alloc (Nat.le_refl _) _,by simp,bY w [a,b,c,d] t 0,bY w [a,b,c,d] t 1,bY w [a,b,c,d] t 2,bY w [a,b,c,d] t 3⟩
theorem lN.next {w W W':World} {a b c d:Value} (h:lN w W a b c d) (hb:Below W.heap.size W W'):lN w W' a b c d:=by
 obtain ⟨h0,hs,c0,c1,c2,c3⟩:=h;exact ⟨h0.trans (hb.mono h0.size),Nat.lt_of_lt_of_le hs hb.size,(hb.cell hs).trans c0,(hb.cell hs).trans c1,(hb.cell hs).trans c2,(hb.cell hs).trans c3⟩
theorem lN.draws {w W:World} {a b c d:Value} (h:lN w W a b c d) (n:Nat):lN w (W.drewN n) a b c d:=h.next (below_drewN (Below.refl _ _) n)
namespace Md
def aD (n:Int):Prop:= -9223372036854775808<=n∧n<=9223372036854775807
inductive aG where
 | nil
 | cons (op n:Int) (nm:ByteArray) (kids rest:aG)
def aG.len:aG->Nat
 | .nil=>0
 | .cons _ _ _ _ r=>r.len + 1
def lZ (op n:Int) (nm:ByteArray) (kids:aG):Prop:=aD op∧aD n∧nm.size<=maxLen∧kids.len<=maxLen
def aG.At (w:World) (B:Nat):aG->Option Addr->Nat->Prop
 | .nil,_,_=>True
 | .cons op n nm kids rest,ao,k=>
   (∃b off dY cap,ao=some ⟨b,off,none⟩∧b < B∧w.cell? ⟨b,off + k * 4,none⟩=some (.int .i64 op)∧w.cell? ⟨b,off + k * 4 + 1,none⟩=some (.int .i64 n)∧
    w.cell? ⟨b,off + k * 4 + 2,none⟩=some (.string nm)∧w.cell? ⟨b,off + k * 4 + 3,none⟩=some (.slice dY kids.len cap)∧lZ op n nm kids∧kids.At w B dY 0)∧
   rest.At w B ao (k + 1)
theorem aG.At.below {w w':World} {B:Nat} (hb:Below B w w'): ∀ {l:aG} {ao:Option Addr} {k:Nat},l.At w B ao k->l.At w' B ao k
 | .nil,_,_,_=>trivial
 | .cons _ _ _ _ _,_,_,h=>by obtain ⟨⟨b,off,dY,cap,e,hB,c0,c1,c2,c3,hok,hk⟩,hr⟩:=h;exact ⟨⟨b,off,dY,cap,e,hB,(hb.cell hB).trans c0,(hb.cell hB).trans c1,(hb.cell hB).trans c2,(hb.cell hB).trans c3,hok,hk.below hb⟩,hr.below hb⟩
theorem aG.At.mono {w:World} {B B':Nat} (hB':B<=B'): ∀ {l:aG} {ao:Option Addr} {k:Nat},l.At w B ao k->l.At w B' ao k
 | .nil,_,_,_=>trivial
 | .cons _ _ _ _ _,_,_,h=>by obtain ⟨⟨b,off,dY,cap,e,hB,c0,c1,c2,c3,hok,hk⟩,hr⟩:=h;exact ⟨⟨b,off,dY,cap,e,Nat.lt_of_lt_of_le hB hB',c0,c1,c2,c3,hok,hk.mono hB'⟩,hr.mono hB'⟩
theorem aG.At.same {w w':World} {l:aG} {ao:Option Addr} {k:Nat} (h:l.At w w.heap.size ao k) (hb:Below w.heap.size w w'):l.At w' w'.heap.size ao k:=
 (h.below hb).mono hb.size
def aG.All (Q:Int->Int->ByteArray->aG->Prop):aG->Prop
 | .nil=>True
 | .cons op n nm kids rest=>Q op n nm kids∧rest.All Q
theorem aG.kU {Q:Int->Int->ByteArray->aG->Prop} (step: ∀op n nm kids,kids.All Q->Q op n nm kids): ∀l:aG,l.All Q
 | .nil=>trivial
 | .cons op n nm kids rest=>⟨step op n nm kids (kU step kids),kU step rest⟩
theorem aG.D5 {Q:Int->Int->ByteArray->aG->Prop} (step: ∀op n nm kids,kids.All Q->Q op n nm kids) (op n:Int) (nm:ByteArray) (kids:aG):Q op n nm kids:=
 step op n nm kids (aG.kU step kids)
def opsOf (op:Int):Int:=if op == 1 || op == 2 then 0 else if op == 3 || op == 4 || op == 5 then 1 else if decide (6<=op) && decide (op<=18) then 2 else -1
def named (op:Int):Bool:=op == 2 || op == 3
def dV (nm:ByteArray) (b:Bool):Bool:=if b then Tk.cO nm.data.toList else nm.data.toList.isEmpty
def rR (op n:Int) (nm:ByteArray) (len:Nat):Bool:=((len:Int) == opsOf op) && (!(decide (n < 0) || (!(n == 0) && !(op == 1))) && dV nm (named op))
def fD:aG->Bool
 | .nil=>true
 | .cons op n nm kids rest=>(rR op n nm kids.len && fD kids) && fD rest
def fT (op n:Int) (nm:ByteArray) (kids:aG):Bool:=rR op n nm kids.len && fD kids
end Md
open Md
theorem tO {P:Program} {f:FuncId} {args:Array Value} {w:World} {n:Nat} {v:Value} (h:Calls P f args (w.drewN n) fun e w'=>e= .returned v∧w.drewN n=w'):
 Calls P f args (w.drewN n) fun e w''=>e= .returned v∧ ∃m,w''=w.drewN m:=h.mono fun _ _ ⟨he,hm⟩=>⟨he,n,hm.symm⟩
theorem wX {P:Program} {id:Nat} {Q:Exit->Act->World->Prop} {a:Act} {w:World} {l:List Oper} {T:Type} (F:T->World) (hm:P.follows .mixedOrders=true) (hB:Region.lexB .any l.toArray=true)
 (h1: ∃x,w.drewN 1=F x) (h:wpQuiet P l.toArray (fun w'=> ∃x,w'=F x) (fun a'=> ∀w',(∃x,w'=F x)->Q .normal a' w') l a):(Code.region id l.toArray true).wp P Q a w:=
 wp_region_quiet (C:=fun w'=> ∃x,w'=F x) hm hB h1 (by simpa using h)
theorem calm (W:World): ∃(T:Type) (F:T->World),Nonempty T∧(∃x,W.drewN 1=F x)∧(∀x,Below W.heap.size W (F x))∧ ∀x w',Below (F x).heap.size (F x) w'-> ∃y,w'=F y:=
 ⟨{W' // Below W.heap.size W W'},Subtype.val,⟨⟨_,Below.refl _ _⟩⟩,⟨⟨_,below_drewN (Below.refl _ _) 1⟩,rfl⟩,fun x=>x.2,fun x w' hb=>⟨⟨w',x.2.trans (hb.mono x.2.size)⟩,rfl⟩⟩
def Holds (W:World):List (Nat × Nat × Value)->Prop
 | []=>True
 | f ::r=>(f.1 < W.heap.size∧W.cell? ⟨f.1,f.2.1,none⟩=some f.2.2)∧Holds W r
theorem Holds.next {W W':World} (hb:Below W.heap.size W W'): ∀ {l:List (Nat × Nat × Value)},Holds W l->Holds W' l
 | [],_=>trivial
 | _ ::_,⟨⟨h1,h2⟩,h3⟩=>⟨⟨Nat.lt_of_lt_of_le h1 hb.size,(hb.cell h1).trans h2⟩,h3.next hb⟩
def Sit (w W:World) (fs:List (Nat × Nat × Value)):Prop:=Below w.heap.size w W∧Holds W fs
theorem Sit.start (w:World):Sit w w []:=⟨Below.refl _ _,trivial⟩
theorem Sit.next {w W W':World} {fs:List (Nat × Nat × Value)} (h:Sit w W fs) (hb:Below W.heap.size W W'):Sit w W' fs:=
 ⟨h.1.trans (hb.mono h.1.size),h.2.next hb⟩
theorem Sit.draws {w W:World} {fs:List (Nat × Nat × Value)} (h:Sit w W fs) (n:Nat):Sit w (W.drewN n) fs:=h.next (below_drewN (Below.refl _ _) n)
theorem ak (W:World) (o:Obj):Below W.heap.size W (W.alloc o):=(Below.refl _ _).alloc (Nat.le_refl _) _
theorem Sit.NS {w W:World} {fs:List (Nat × Nat × Value)} {n:Nat} (h:Sit w W fs) (hn:W.heap.size=n) (a b:Value) (t:TypeId):
 Sit w (W.alloc (.cells #[a,b] t)) ((n,0,a) ::(n,1,b) ::fs):=by
 subst hn;exact ⟨(h.next (ak _ _)).1,⟨by simp,bY W [a,b] t 0⟩,⟨by simp,bY W [a,b] t 1⟩,(h.next (ak _ _)).2⟩
theorem Sit.NT {w W:World} {fs:List (Nat × Nat × Value)} {n:Nat} (h:Sit w W fs) (hn:W.heap.size=n) (a b c d:Value) (t:TypeId):
 Sit w (W.alloc (.cells #[a,b,c,d] t)) ((n,0,a) ::(n,1,b) ::(n,2,c) ::(n,3,d) ::fs):=by
 subst hn;exact ⟨(h.next (ak _ _)).1,⟨by simp,bY W [a,b,c,d] t 0⟩,⟨by simp,bY W [a,b,c,d] t 1⟩,⟨by simp,bY W [a,b,c,d] t 2⟩,⟨by simp,bY W [a,b,c,d] t 3⟩,(h.next (ak _ _)).2⟩
theorem Sit.Ji {w W:World} {fs:List (Nat × Nat × Value)} {n:Nat} (h:Sit w W fs) (hn:W.heap.size=n) (a b c d e f:Value) (t:TypeId):
 Sit w (W.alloc (.cells #[a,b,c,d,e,f] t)) ((n,0,a) ::(n,1,b) ::(n,2,c) ::(n,3,d) ::(n,4,e) ::(n,5,f) ::fs):=by
 subst hn;exact ⟨(h.next (ak _ _)).1,⟨by simp,bY W [a,b,c,d,e,f] t 0⟩,⟨by simp,bY W [a,b,c,d,e,f] t 1⟩,⟨by simp,bY W [a,b,c,d,e,f] t 2⟩,⟨by simp,bY W [a,b,c,d,e,f] t 3⟩,⟨by simp,bY W [a,b,c,d,e,f] t 4⟩,⟨by simp,bY W [a,b,c,d,e,f] t 5⟩,(h.next (ak _ _)).2⟩
theorem Sit.KT {w W:World} {fs:List (Nat × Nat × Value)} {n:Nat} (hs:Sit w W fs) (hn:W.heap.size=n) (a b c d e f g h i j k:Value) (t:TypeId):
 Sit w (W.alloc (.cells #[a,b,c,d,e,f,g,h,i,j,k] t)) ((n,0,a) ::(n,1,b) ::(n,2,c) ::(n,3,d) ::(n,4,e) ::(n,5,f) ::(n,6,g) ::(n,7,h) ::(n,8,i) ::(n,9,j) ::(n,10,k) ::fs):=by
 subst hn;exact ⟨(hs.next (ak _ _)).1,⟨by simp,bY W [a,b,c,d,e,f,g,h,i,j,k] t 0⟩,⟨by simp,bY W [a,b,c,d,e,f,g,h,i,j,k] t 1⟩,⟨by simp,bY W [a,b,c,d,e,f,g,h,i,j,k] t 2⟩,⟨by simp,bY W [a,b,c,d,e,f,g,h,i,j,k] t 3⟩,⟨by simp,bY W [a,b,c,d,e,f,g,h,i,j,k] t 4⟩,⟨by simp,bY W [a,b,c,d,e,f,g,h,i,j,k] t 5⟩,⟨by simp,bY W [a,b,c,d,e,f,g,h,i,j,k] t 6⟩,⟨by simp,bY W [a,b,c,d,e,f,g,h,i,j,k] t 7⟩,⟨by simp,bY W [a,b,c,d,e,f,g,h,i,j,k] t 8⟩,⟨by simp,bY W [a,b,c,d,e,f,g,h,i,j,k] t 9⟩,⟨by simp,bY W [a,b,c,d,e,f,g,h,i,j,k] t 10⟩,(hs.next (ak _ _)).2⟩
namespace Md
structure De where
 kind:Int
 line:Int
 nm:ByteArray
 size:Int
 init:Int
 on:ByteArray
def De.Ok (d:De):Prop:=aD d.kind∧aD d.line∧d.nm.size<=maxLen∧aD d.size∧aD d.init∧d.on.size<=maxLen
structure bD where
 op:Int
 line:Int
 nm:ByteArray
 arg:ByteArray
 idx:aG
 iJ:Int
 xn:Int
 iP:ByteArray
 dn:aG
inductive aL where
 | nil
 | cons (h:bD) (body els rest:aL)
def aL.len:aL->Nat
 | .nil=>0
 | .cons _ _ _ r=>r.len + 1
def aL.All (Q:bD->aL->aL->Prop):aL->Prop
 | .nil=>True
 | .cons h b e r=>Q h b e∧r.All Q
theorem aL.kU {Q:bD->aL->aL->Prop} (step: ∀h b e,b.All Q->e.All Q->Q h b e): ∀l:aL,l.All Q
 | .nil=>trivial
 | .cons h b e r=>⟨step h b e (kU step b) (kU step e),kU step r⟩
theorem aL.D5 {Q:bD->aL->aL->Prop} (step: ∀h b e,b.All Q->e.All Q->Q h b e) (h:bD) (b e:aL):Q h b e:=
 step h b e (aL.kU step b) (aL.kU step e)
structure Th where
 nm:ByteArray
 line:Int
 cu:List ByteArray
 body:aL
def gX (w:World) (B:Nat):List ByteArray->Option Addr->Nat->Prop
 | [],_,_=>True
 | s ::r,ao,k=>(∃b off,ao=some ⟨b,off,none⟩∧b < B∧w.cell? ⟨b,off + k,none⟩=some (.string s)∧s.size<=maxLen)∧gX w B r ao (k + 1)
def fZ (w:World) (B:Nat):List De->Option Addr->Nat->Prop
 | [],_,_=>True
 | d ::r,ao,k=>(∃b off,ao=some ⟨b,off,none⟩∧b < B∧w.cell? ⟨b,off + k * 6,none⟩=some (.int .i64 d.kind)∧w.cell? ⟨b,off + k * 6 + 1,none⟩=some (.int .i64 d.line)∧
     w.cell? ⟨b,off + k * 6 + 2,none⟩=some (.string d.nm)∧w.cell? ⟨b,off + k * 6 + 3,none⟩=some (.int .i64 d.size)∧w.cell? ⟨b,off + k * 6 + 4,none⟩=some (.int .i64 d.init)∧
     w.cell? ⟨b,off + k * 6 + 5,none⟩=some (.string d.on)∧d.Ok)∧fZ w B r ao (k + 1)
def kS (h:bD) (body els:aL):Prop:=
 aD h.op∧aD h.line∧h.nm.size<=maxLen∧h.arg.size<=maxLen∧h.idx.len<=maxLen∧lZ h.iJ h.xn h.iP h.dn∧body.len<=maxLen∧els.len<=maxLen
def aL.At (w:World) (B:Nat):aL->Option Addr->Nat->Prop
 | .nil,_,_=>True
 | .cons h body els rest,ao,k=>
   (∃b off eT dO eZ dS bg aU fG dZ,ao=some ⟨b,off,none⟩∧b < B∧w.cell? ⟨b,off + k * 11,none⟩=some (.int .i64 h.op)∧w.cell? ⟨b,off + k * 11 + 1,none⟩=some (.int .i64 h.line)∧
    w.cell? ⟨b,off + k * 11 + 2,none⟩=some (.string h.nm)∧w.cell? ⟨b,off + k * 11 + 3,none⟩=some (.string h.arg)∧w.cell? ⟨b,off + k * 11 + 4,none⟩=some (.slice eT h.idx.len dO)∧
    w.cell? ⟨b,off + k * 11 + 5,none⟩=some (.int .i64 h.iJ)∧w.cell? ⟨b,off + k * 11 + 6,none⟩=some (.int .i64 h.xn)∧w.cell? ⟨b,off + k * 11 + 7,none⟩=some (.string h.iP)∧w.cell? ⟨b,off + k * 11 + 8,none⟩=some (.slice eZ h.dn.len dS)∧
    w.cell? ⟨b,off + k * 11 + 9,none⟩=some (.slice bg body.len aU)∧w.cell? ⟨b,off + k * 11 + 10,none⟩=some (.slice fG els.len dZ)∧kS h body els∧
    h.idx.At w B eT 0∧h.dn.At w B eZ 0∧body.At w B bg 0∧els.At w B fG 0)∧rest.At w B ao (k + 1)
def Th.Ok (t:Th):Prop:=t.nm.size<=maxLen∧aD t.line∧t.cu.length<=maxLen∧t.body.len<=maxLen
def gq (w:World) (B:Nat):List Th->Option Addr->Nat->Prop
 | [],_,_=>True
 | t ::r,ao,k=>(∃b off dw bG bg aU,ao=some ⟨b,off,none⟩∧b < B∧w.cell? ⟨b,off + k * 4,none⟩=some (.string t.nm)∧w.cell? ⟨b,off + k * 4 + 1,none⟩=some (.int .i64 t.line)∧
     w.cell? ⟨b,off + k * 4 + 2,none⟩=some (.slice dw t.cu.length bG)∧w.cell? ⟨b,off + k * 4 + 3,none⟩=some (.slice bg t.body.len aU)∧t.Ok∧gX w B t.cu dw 0∧t.body.At w B bg 0∧t.cu.length<=bG)∧gq w B r ao (k + 1)
section
variable {w w':World} {B B':Nat}
theorem gX.below (hb:Below B w w'): ∀ {l:List ByteArray} {ao:Option Addr} {k:Nat},gX w B l ao k->gX w' B l ao k
 | [],_,_,_=>trivial
 | _ ::_,_,_,⟨⟨b,off,e,hB,c,hs⟩,hr⟩=>⟨⟨b,off,e,hB,(hb.cell hB).trans c,hs⟩,gX.below hb hr⟩
theorem gX.mono (h:B<=B'): ∀ {l:List ByteArray} {ao:Option Addr} {k:Nat},gX w B l ao k->gX w B' l ao k
 | [],_,_,_=>trivial
 | _ ::_,_,_,⟨⟨b,off,e,hB,c,hs⟩,hr⟩=>⟨⟨b,off,e,Nat.lt_of_lt_of_le hB h,c,hs⟩,gX.mono h hr⟩
theorem gX.same {l:List ByteArray} {ao:Option Addr} {k:Nat} (h:gX w w.heap.size l ao k) (hb:Below w.heap.size w w'):gX w' w'.heap.size l ao k:=(h.below hb).mono hb.size
theorem gX.drop: ∀ {l:List ByteArray} {ao:Option Addr} {k:Nat} (i:Nat),gX w B l ao k->gX w B (l.drop i) ao (k + i)
 | _,_,_,0,h=>h
 | [],_,_,_ + 1,_=>by simp [gX]
 | _ ::_,_,k,i + 1,⟨_,hr⟩=>by have:=gX.drop i hr; rw [List.drop_succ_cons]; rwa [Nat.add_assoc,Nat.add_comm 1 i] at this
theorem fZ.below (hb:Below B w w'): ∀ {l:List De} {ao:Option Addr} {k:Nat},fZ w B l ao k->fZ w' B l ao k
 | [],_,_,_=>trivial
 | _ ::_,_,_,⟨⟨b,off,e,hB,c0,c1,c2,c3,c4,c5,hs⟩,hr⟩=>⟨⟨b,off,e,hB,(hb.cell hB).trans c0,(hb.cell hB).trans c1,(hb.cell hB).trans c2,(hb.cell hB).trans c3,(hb.cell hB).trans c4,(hb.cell hB).trans c5,hs⟩,fZ.below hb hr⟩
theorem fZ.mono (h:B<=B'): ∀ {l:List De} {ao:Option Addr} {k:Nat},fZ w B l ao k->fZ w B' l ao k
 | [],_,_,_=>trivial
 | _ ::_,_,_,⟨⟨b,off,e,hB,c⟩,hr⟩=>⟨⟨b,off,e,Nat.lt_of_lt_of_le hB h,c⟩,fZ.mono h hr⟩
theorem fZ.same {l:List De} {ao:Option Addr} {k:Nat} (h:fZ w w.heap.size l ao k) (hb:Below w.heap.size w w'):fZ w' w'.heap.size l ao k:=(h.below hb).mono hb.size
theorem fZ.drop: ∀ {l:List De} {ao:Option Addr} {k:Nat} (i:Nat),fZ w B l ao k->fZ w B (l.drop i) ao (k + i)
 | _,_,_,0,h=>h
 | [],_,_,_ + 1,_=>by simp [fZ]
 | _ ::_,_,k,i + 1,⟨_,hr⟩=>by have:=fZ.drop i hr; rw [List.drop_succ_cons]; rwa [Nat.add_assoc,Nat.add_comm 1 i] at this
theorem gX.take: ∀ {pre R:List ByteArray} {ao:Option Addr} {k:Nat},gX w B (pre++R) ao k->gX w B pre ao k
 | [],_,_,_,_=>trivial
 | _ ::_,_,_,_,h=>⟨h.1,gX.take h.2⟩
theorem fZ.take: ∀ {pre R:List De} {ao:Option Addr} {k:Nat},fZ w B (pre++R) ao k->fZ w B pre ao k
 | [],_,_,_,_=>trivial
 | _ ::_,_,_,_,h=>⟨h.1,fZ.take h.2⟩
theorem aL.At.below (hb:Below B w w'): ∀ {l:aL} {ao:Option Addr} {k:Nat},l.At w B ao k->l.At w' B ao k
 | .nil,_,_,_=>trivial
 | .cons _ _ _ _,_,_,h=>by obtain ⟨⟨b,off,eT,dO,eZ,dS,bg,aU,fG,dZ,e,hB,c0,c1,c2,c3,c4,c5,c6,c7,c8,c9,c10,hok,h1,h2,h3,h4⟩,hr⟩:=h;exact ⟨⟨b,off,eT,dO,eZ,dS,bg,aU,fG,dZ,e,hB,(hb.cell hB).trans c0,(hb.cell hB).trans c1,(hb.cell hB).trans c2,(hb.cell hB).trans c3,(hb.cell hB).trans c4,(hb.cell hB).trans c5,(hb.cell hB).trans c6,(hb.cell hB).trans c7,(hb.cell hB).trans c8,(hb.cell hB).trans c9,(hb.cell hB).trans c10,hok,h1.below hb,h2.below hb,h3.below hb,h4.below hb⟩,hr.below hb⟩
theorem aL.At.mono (h:B<=B'): ∀ {l:aL} {ao:Option Addr} {k:Nat},l.At w B ao k->l.At w B' ao k
 | .nil,_,_,_=>trivial
 | .cons _ _ _ _,_,_,h'=>by obtain ⟨⟨b,off,eT,dO,eZ,dS,bg,aU,fG,dZ,e,hB,c0,c1,c2,c3,c4,c5,c6,c7,c8,c9,c10,hok,h1,h2,h3,h4⟩,hr⟩:=h';exact ⟨⟨b,off,eT,dO,eZ,dS,bg,aU,fG,dZ,e,Nat.lt_of_lt_of_le hB h,c0,c1,c2,c3,c4,c5,c6,c7,c8,c9,c10,hok,h1.mono h,h2.mono h,h3.mono h,h4.mono h⟩,hr.mono h⟩
theorem aL.At.same {l:aL} {ao:Option Addr} {k:Nat} (h:l.At w w.heap.size ao k) (hb:Below w.heap.size w w'):l.At w' w'.heap.size ao k:=(h.below hb).mono hb.size
theorem gq.below (hb:Below B w w'): ∀ {l:List Th} {ao:Option Addr} {k:Nat},gq w B l ao k->gq w' B l ao k
 | [],_,_,_=>trivial
 | _ ::_,_,_,⟨⟨b,off,dw,bG,bg,aU,e,hB,c0,c1,c2,c3,hs,ht,hst⟩,hr⟩=>⟨⟨b,off,dw,bG,bg,aU,e,hB,(hb.cell hB).trans c0,(hb.cell hB).trans c1,(hb.cell hB).trans c2,(hb.cell hB).trans c3,hs,ht.below hb,hst.1.below hb,hst.2⟩,gq.below hb hr⟩
theorem gq.mono (h:B<=B'): ∀ {l:List Th} {ao:Option Addr} {k:Nat},gq w B l ao k->gq w B' l ao k
 | [],_,_,_=>trivial
 | _ ::_,_,_,⟨⟨b,off,dw,bG,bg,aU,e,hB,c0,c1,c2,c3,hs,ht,hst⟩,hr⟩=>⟨⟨b,off,dw,bG,bg,aU,e,Nat.lt_of_lt_of_le hB h,c0,c1,c2,c3,hs,ht.mono h,hst.1.mono h,hst.2⟩,gq.mono h hr⟩
theorem gq.same {l:List Th} {ao:Option Addr} {k:Nat} (h:gq w w.heap.size l ao k) (hb:Below w.heap.size w w'):gq w' w'.heap.size l ao k:=(h.below hb).mono hb.size
theorem gq.drop: ∀ {l:List Th} {ao:Option Addr} {k:Nat} (i:Nat),gq w B l ao k->gq w B (l.drop i) ao (k + i)
 | _,_,_,0,h=>h
 | [],_,_,_ + 1,_=>by simp [gq]
 | _ ::_,_,k,i + 1,⟨_,hr⟩=>by have:=gq.drop i hr; rw [List.drop_succ_cons]; rwa [Nat.add_assoc,Nat.add_comm 1 i] at this
theorem gq.take: ∀ {pre R:List Th} {ao:Option Addr} {k:Nat},gq w B (pre++R) ao k->gq w B pre ao k
 | [],_,_,_,_=>trivial
 | _ ::_,_,_,_,h=>⟨h.1,gq.take h.2⟩
end
structure Pr where
 ds:List De
 ts:List Th
def Pr.At (w:World) (p:Pr) (aT aZ:Option Addr):Prop:=p.ds.length<=maxLen∧p.ts.length<=maxLen∧fZ w w.heap.size p.ds aT 0∧gq w w.heap.size p.ts aZ 0
theorem Pr.At.same {w w':World} {p:Pr} {aT aZ:Option Addr} (h:p.At w aT aZ) (hb:Below w.heap.size w w'):p.At w' aT aZ:=⟨h.1,h.2.1,h.2.2.1.same hb,h.2.2.2.same hb⟩
end Md
namespace Md
def fN (op:Int):Bool:=(op == 1 || (decide (4<=op) && decide (op<=6))) || (decide (9<=op) && decide (op<=15))
def fA (op:Int):Bool:=op == 15
def fI (op:Int):Bool:=op == 1
def fX (op:Int):Bool:=(op == 1 || op == 2) || (op == 3 || op == 14)
def fB (op:Int):Bool:=decide (2<=op) && decide (op<=8)
def fE (op:Int):Bool:=op == 2
def fO (op:Int):Bool:=decide (1<=op) && decide (op<=15)
def jB (op n:Int) (nm:ByteArray) (len:Nat):Bool:=((op == 0 && n == 0) && nm.toList.isEmpty) && len == 0
def gu (d:De):Bool:=(((decide (1<=d.kind) && decide (d.kind<=6)) && Tk.cO d.nm.data.toList) && (decide (0<=d.size) && (d.size == 0 || d.kind == 1))) && (((d.init != -9223372036854775808) && (d.init == 0 || (d.kind == 1 || d.kind == 2))) && dV d.on (d.kind == 5))
def kQ (h:bD) (bl el:Nat):Bool:=
 ((fO h.op && (dV h.nm (fN h.op) && dV h.arg (fA h.op))) && ((decide (h.idx.len<=1) && (!(h.idx.len == 1) || fI h.op)) && fD h.idx)) &&
   ((if fX h.op then fT h.iJ h.xn h.iP h.dn else jB h.iJ h.xn h.iP h.dn.len) && ((fB h.op || bl == 0) && (fE h.op || el == 0)))
def dX:aL->Bool
 | .nil=>true
 | .cons h b e r=>(kQ h b.len e.len && (dX b && dX e)) && dX r
def mE (h:bD) (b e:aL):Bool:=kQ h b.len e.len && (dX b && dX e)
theorem pJ (h:bD) (b e r:aL):dX (.cons h b e r)=(mE h b e && dX r):=rfl
def iX (t:Th):Bool:=(Tk.cO t.nm.data.toList && t.cu.all fun s=>Tk.cO s.data.toList) && dX t.body
def oK (p:Pr):Bool:=(p.ds.all gu && p.ts.all iX) && decide ((0:Int) < p.ts.length)
theorem op2 {x:Int} (h:x=2):(x == 1)=false∧(x == 2)=true∧(x == 3)=false∧(x == 4)=false∧(x == 5)=false∧(x == 6)=false∧(x == 7)=false∧(x == 8)=false∧(x == 9)=false∧(x == 10)=false∧(x == 11)=false∧(x == 12)=false∧(x == 13)=false∧(x == 14)=false∧(x == 15)=false:=by subst h; simp
end Md
namespace Md
structure Sl where
 eT:Option Addr
 dO:Nat
 eZ:Option Addr
 dS:Nat
 bg:Option Addr
 aU:Nat
 fG:Option Addr
 dZ:Nat
def eY (h:bD) (b e:aL) (s:Sl):Value:= .agg #[.int .i64 h.op,.int .i64 h.line,.string h.nm,.string h.arg,.slice s.eT h.idx.len s.dO,.int .i64 h.iJ,.int .i64 h.xn,.string h.iP,.slice s.eZ h.dn.len s.dS,.slice s.bg b.len s.aU,.slice s.fG e.len s.dZ]
def wY (n:Nat) (h:bD) (b e:aL) (s:Sl) (fs:List (Nat × Nat × Value)):List (Nat × Nat × Value):=
 (n,0,.int .i64 h.op) ::(n,1,.int .i64 h.line) ::(n,2,.string h.nm) ::(n,3,.string h.arg) ::(n,4,.slice s.eT h.idx.len s.dO) ::(n,5,.int .i64 h.iJ) ::(n,6,.int .i64 h.xn) ::(n,7,.string h.iP) ::(n,8,.slice s.eZ h.dn.len s.dS) ::(n,9,.slice s.bg b.len s.aU) ::(n,10,.slice s.fG e.len s.dZ) ::fs
def zy (w:World) (h:bD) (b e:aL) (s:Sl):Prop:=kS h b e∧h.idx.At w w.heap.size s.eT 0∧h.dn.At w w.heap.size s.eZ 0∧b.At w w.heap.size s.bg 0∧e.At w w.heap.size s.fG 0
theorem zy.same {w w':World} {h:bD} {b e:aL} {s:Sl} (hi:zy w h b e s) (hb:Below w.heap.size w w'):zy w' h b e s:=
 ⟨hi.1,hi.2.1.same hb,hi.2.2.1.same hb,hi.2.2.2.1.same hb,hi.2.2.2.2.same hb⟩
theorem aL.At.head {w:World} {h:bD} {b e r:aL} {ao:Option Addr} {k:Nat} (hat:(aL.cons h b e r).At w w.heap.size ao k): ∃bl off s,ao=some ⟨bl,off,none⟩∧bl < w.heap.size∧zy w h b e s∧
 w.cell? ⟨bl,off + k * 11,none⟩=some (.int .i64 h.op)∧w.cell? ⟨bl,off + k * 11 + 1,none⟩=some (.int .i64 h.line)∧w.cell? ⟨bl,off + k * 11 + 2,none⟩=some (.string h.nm)∧w.cell? ⟨bl,off + k * 11 + 3,none⟩=some (.string h.arg)∧w.cell? ⟨bl,off + k * 11 + 4,none⟩=some (.slice s.eT h.idx.len s.dO)∧
 w.cell? ⟨bl,off + k * 11 + 5,none⟩=some (.int .i64 h.iJ)∧w.cell? ⟨bl,off + k * 11 + 6,none⟩=some (.int .i64 h.xn)∧w.cell? ⟨bl,off + k * 11 + 7,none⟩=some (.string h.iP)∧w.cell? ⟨bl,off + k * 11 + 8,none⟩=some (.slice s.eZ h.dn.len s.dS)∧
 w.cell? ⟨bl,off + k * 11 + 9,none⟩=some (.slice s.bg b.len s.aU)∧w.cell? ⟨bl,off + k * 11 + 10,none⟩=some (.slice s.fG e.len s.dZ)∧r.At w w.heap.size ao (k + 1):=by
 obtain ⟨⟨b,off,eT,dO,eZ,dS,bg,aU,fG,dZ,e,hB,c0,c1,c2,c3,c4,c5,c6,c7,c8,c9,c10,hok,h1,h2,h3,h4⟩,hr⟩:=hat;exact ⟨b,off,⟨eT,dO,eZ,dS,bg,aU,fG,dZ⟩,e,hB,⟨hok,h1,h2,h3,h4⟩,c0,c1,c2,c3,c4,c5,c6,c7,c8,c9,c10,hr⟩
end Md
theorem ED (n:Nat):decide ((n:Int)<=1)=decide (n<=1):=by rw [decide_eq_decide]; omega
theorem EC (n:Nat):decide ((n:Int)=1)=(n == 1):=by rw [Bool.eq_iff_iff,decide_eq_true_iff,beq_iff_eq]; omega
theorem wh (n:Nat):decide ((n:Int)<=0)=(n == 0):=by rw [Bool.eq_iff_iff,decide_eq_true_iff,beq_iff_eq]; omega
end Go.Proofs.YtkajcclnlehkmaaGreatDoor
