/- Expressions as data, and what it is that a row of them lies in memory. No program in sight. And what hangs on it. -/
import Derived.Test.YtkmllehjemjgpaaGreatDoorGA
import Derived.WalkSmall
import Derived.Deep.QuietTactic
import Derived.BigQuiet
import Derived.Deep.DeepCutAuto
set_option linter.unusedSimpArgs false
set_option linter.unusedVariables false
set_option maxHeartbeats 40000000
set_option maxRecDepth 1000000
namespace Go.Proofs.YtkmllehjemjgpaaGreatDoor
open Go.RowKit
theorem dB (w:World) (cs:List Value) (t:TypeId) (j:Nat):(w.alloc (.cells cs.toArray t)).cell? ⟨w.heap.size,j,none⟩=cs[j]?:=LD w cs t j
def uw (w W:World) (a b c d:Value):Prop:=
 Below w.heap.size w W∧w.heap.size<W.heap.size∧W.cell? ⟨w.heap.size,0,none⟩=some a∧W.cell? ⟨w.heap.size,1,none⟩=some b∧W.cell? ⟨w.heap.size,2,none⟩=some c∧W.cell? ⟨w.heap.size,3,none⟩=some d
theorem uw.mk {w W:World} {a b c d:Value} {t:TypeId} (h:w.alloc (.cells #[a,b,c,d] t)=W):uw w W a b c d:=by
 subst h;exact⟨(Below.refl _ _).alloc (Nat.le_refl _) _,by simp,dB w [a,b,c,d] t 0,dB w [a,b,c,d] t 1,dB w [a,b,c,d] t 2,dB w [a,b,c,d] t 3⟩
theorem uw.next {w W W':World} {a b c d:Value} (h:uw w W a b c d) (hb:Below W.heap.size W W'):uw w W' a b c d:=by
 obtain⟨h0,hs,c0,c1,c2,c3⟩:=h;exact⟨h0.trans (hb.mono h0.size),Nat.lt_of_lt_of_le hs hb.size,(hb.cell hs).trans c0,(hb.cell hs).trans c1,(hb.cell hs).trans c2,(hb.cell hs).trans c3⟩
theorem uw.draws {w W:World} {a b c d:Value} (h:uw w W a b c d) (n:Nat):uw w (W.drewN n) a b c d:=h.next (below_drewN (Below.refl _ _) n)
namespace Md
def fD (n:Int):Prop:= -9223372036854775808<=n∧n<=9223372036854775807
inductive bC where
 |nil
 |cons (op n:Int) (nm:ByteArray) (kids rest:bC)
def bC.len:bC->Nat
 | .nil=>0
 | .cons _ _ _ _ r=>r.len+1
def sD (op n:Int) (nm:ByteArray) (kids:bC):Prop:=fD op∧fD n∧nm.size<=maxLen∧kids.len<=maxLen
def bC.At (w:World) (B:Nat):bC->Option Addr->Nat->Prop
 | .nil,_,_=>True
 | .cons op n nm kids rest,ao,k=>
   (∃b off nR cap,ao=some ⟨b,off,none⟩∧b<B∧w.cell? ⟨b,off+k*4,none⟩=some (.int .i64 op)∧w.cell? ⟨b,off+k*4+1,none⟩=some (.int .i64 n)∧
    w.cell? ⟨b,off+k*4+2,none⟩=some (.string nm)∧w.cell? ⟨b,off+k*4+3,none⟩=some (.slice nR kids.len cap)∧sD op n nm kids∧kids.At w B nR 0)∧
   rest.At w B ao (k+1)
theorem bC.At.below {w w':World} {B:Nat} (hb:Below B w w'): ∀ {l:bC} {ao:Option Addr} {k:Nat},l.At w B ao k->l.At w' B ao k
 | .nil,_,_,_=>trivial
 | .cons _ _ _ _ _,_,_,h=>by obtain⟨⟨b,off,nR,cap,e,hB,c0,c1,c2,c3,hok,hk⟩,hr⟩:=h;exact⟨⟨b,off,nR,cap,e,hB,(hb.cell hB).trans c0,(hb.cell hB).trans c1,(hb.cell hB).trans c2,(hb.cell hB).trans c3,hok,hk.below hb⟩,hr.below hb⟩
theorem bC.At.mono {w:World} {B B':Nat} (hB':B<=B'): ∀ {l:bC} {ao:Option Addr} {k:Nat},l.At w B ao k->l.At w B' ao k
 | .nil,_,_,_=>trivial
 | .cons _ _ _ _ _,_,_,h=>by obtain⟨⟨b,off,nR,cap,e,hB,c0,c1,c2,c3,hok,hk⟩,hr⟩:=h;exact⟨⟨b,off,nR,cap,e,Nat.lt_of_lt_of_le hB hB',c0,c1,c2,c3,hok,hk.mono hB'⟩,hr.mono hB'⟩
theorem bC.At.same {w w':World} {l:bC} {ao:Option Addr} {k:Nat} (h:l.At w w.heap.size ao k) (hb:Below w.heap.size w w'):l.At w' w'.heap.size ao k:=
 (h.below hb).mono hb.size
def bC.All (Q:Int->Int->ByteArray->bC->Prop):bC->Prop
 | .nil=>True
 | .cons op n nm kids rest=>Q op n nm kids∧rest.All Q
theorem bC.lM {Q:Int->Int->ByteArray->bC->Prop} (step: ∀op n nm kids,kids.All Q->Q op n nm kids): ∀l:bC,l.All Q
 | .nil=>trivial
 | .cons op n nm kids rest=>⟨step op n nm kids (lM step kids),lM step rest⟩
theorem bC.wY {Q:Int->Int->ByteArray->bC->Prop} (step: ∀op n nm kids,kids.All Q->Q op n nm kids) (op n:Int) (nm:ByteArray) (kids:bC):Q op n nm kids:=
 step op n nm kids (bC.lM step kids)
def opsOf (op:Int):Int:=if op==1||op==2 then 0 else if op==3||op==4||op==5 then 1 else if decide (6<=op)&&decide (op<=18)then 2 else -1
def named (op:Int):Bool:=op==2||op==3
def jQ (nm:ByteArray) (b:Bool):Bool:=if b then Tk.iC nm.data.toList else nm.data.toList.isEmpty
def FH (op n:Int) (nm:ByteArray) (len:Nat):Bool:=((len:Int)==opsOf op)&&(!(decide (n<0)||(!(n==0)&& !(op==1)))&&jQ nm (named op))
def kZ:bC->Bool
 | .nil=>true
 | .cons op n nm kids rest=>(FH op n nm kids.len&&kZ kids)&&kZ rest
def iY (op n:Int) (nm:ByteArray) (kids:bC):Bool:=FH op n nm kids.len&&kZ kids
end Md
open Md
theorem lX {P:Program} {f:FuncId} {args:Array Value} {w:World} {n:Nat} {v:Value} (h:Calls P f args (w.drewN n) λe w'=>e= .returned v∧w.drewN n=w'):
 Calls P f args (w.drewN n) λe w''=>e= .returned v∧∃m,w''=w.drewN m:=h.mono λ_ _ ⟨he,hm⟩=>⟨he,n,hm.symm⟩
theorem gZ {P:Program} {id:Nat} {Q:Exit->Act->World->Prop} {a:Act} {w:World} {l:List Oper} {T:Type} (F:T->World) (hm:P.follows .mixedOrders=true) (hB:Region.lexB .any l.toArray=true)
 (h1: ∃x,w.drewN 1=F x) (h:wpQuiet P l.toArray (λw'=> ∃x,w'=F x) (λa'=> ∀w',(∃x,w'=F x)->Q .normal a' w') l a):(Code.region id l.toArray true).wp P Q a w:=
 wp_region_quiet (C:=λw'=> ∃x,w'=F x) hm hB h1 (by simpa using h)
theorem calm (W:World): ∃(T:Type) (F:T->World),Nonempty T∧(∃x,W.drewN 1=F x)∧(∀x,Below W.heap.size W (F x))∧∀x w',Below (F x).heap.size (F x) w'->∃y,w'=F y:=
 ⟨{W' // Below W.heap.size W W'},Subtype.val,⟨⟨_,Below.refl _ _⟩⟩,⟨⟨_,below_drewN (Below.refl _ _) 1⟩,rfl⟩,λx=>x.2,λx w' hb=>⟨⟨w',x.2.trans (hb.mono x.2.size)⟩,rfl⟩⟩
def Holds (W:World):List (Nat×Nat×Value)->Prop
 | []=>True
 |f::r=>(f.1<W.heap.size∧W.cell? ⟨f.1,f.2.1,none⟩=some f.2.2)∧Holds W r
theorem Holds.next {W W':World} (hb:Below W.heap.size W W'): ∀ {l:List (Nat×Nat×Value)},Holds W l->Holds W' l
 | [],_=>trivial
 |_::_,⟨⟨h1,h2⟩,h3⟩=>⟨⟨Nat.lt_of_lt_of_le h1 hb.size,(hb.cell h1).trans h2⟩,h3.next hb⟩
def Sit (w W:World) (fs:List (Nat×Nat×Value)):Prop:=Below w.heap.size w W∧Holds W fs
theorem Sit.start (w:World):Sit w w []:=⟨Below.refl _ _,trivial⟩
theorem Sit.next {w W W':World} {fs:List (Nat×Nat×Value)} (h:Sit w W fs) (hb:Below W.heap.size W W'):Sit w W' fs:=
 ⟨h.1.trans (hb.mono h.1.size),h.2.next hb⟩
theorem Sit.draws {w W:World} {fs:List (Nat×Nat×Value)} (h:Sit w W fs) (n:Nat):Sit w (W.drewN n) fs:=h.next (below_drewN (Below.refl _ _) n)
theorem ak (W:World) (o:Obj):Below W.heap.size W (W.alloc o):=(Below.refl _ _).alloc (Nat.le_refl _) _
theorem Sit.vg {w W:World} {fs:List (Nat×Nat×Value)} {n:Nat} (h:Sit w W fs) (hn:W.heap.size=n) (a b:Value) (t:TypeId):
 Sit w (W.alloc (.cells #[a,b] t)) ((n,0,a)::(n,1,b)::fs):=by
 subst hn;exact⟨(h.next (ak _ _)).1,⟨by simp,dB W [a,b] t 0⟩,⟨by simp,dB W [a,b] t 1⟩,(h.next (ak _ _)).2⟩
theorem Sit.yh {w W:World} {fs:List (Nat×Nat×Value)} {n:Nat} (h:Sit w W fs) (hn:W.heap.size=n) (a b c d:Value) (t:TypeId):
 Sit w (W.alloc (.cells #[a,b,c,d] t)) ((n,0,a)::(n,1,b)::(n,2,c)::(n,3,d)::fs):=by
 subst hn;exact⟨(h.next (ak _ _)).1,⟨by simp,dB W [a,b,c,d] t 0⟩,⟨by simp,dB W [a,b,c,d] t 1⟩,⟨by simp,dB W [a,b,c,d] t 2⟩,⟨by simp,dB W [a,b,c,d] t 3⟩,(h.next (ak _ _)).2⟩
theorem Sit.Ny {w W:World} {fs:List (Nat×Nat×Value)} {n:Nat} (h:Sit w W fs) (hn:W.heap.size=n) (a b c d e f:Value) (t:TypeId):
 Sit w (W.alloc (.cells #[a,b,c,d,e,f] t)) ((n,0,a)::(n,1,b)::(n,2,c)::(n,3,d)::(n,4,e)::(n,5,f)::fs):=by
 subst hn;exact⟨(h.next (ak _ _)).1,⟨by simp,dB W [a,b,c,d,e,f] t 0⟩,⟨by simp,dB W [a,b,c,d,e,f] t 1⟩,⟨by simp,dB W [a,b,c,d,e,f] t 2⟩,⟨by simp,dB W [a,b,c,d,e,f] t 3⟩,⟨by simp,dB W [a,b,c,d,e,f] t 4⟩,⟨by simp,dB W [a,b,c,d,e,f] t 5⟩,(h.next (ak _ _)).2⟩
theorem Sit.tK {w W:World} {fs:List (Nat×Nat×Value)} {n:Nat} (hs:Sit w W fs) (hn:W.heap.size=n) (a b c d e f g h i j k:Value) (t:TypeId):
 Sit w (W.alloc (.cells #[a,b,c,d,e,f,g,h,i,j,k] t)) ((n,0,a)::(n,1,b)::(n,2,c)::(n,3,d)::(n,4,e)::(n,5,f)::(n,6,g)::(n,7,h)::(n,8,i)::(n,9,j)::(n,10,k)::fs):=by
 subst hn;exact⟨(hs.next (ak _ _)).1,⟨by simp,dB W [a,b,c,d,e,f,g,h,i,j,k] t 0⟩,⟨by simp,dB W [a,b,c,d,e,f,g,h,i,j,k] t 1⟩,⟨by simp,dB W [a,b,c,d,e,f,g,h,i,j,k] t 2⟩,⟨by simp,dB W [a,b,c,d,e,f,g,h,i,j,k] t 3⟩,⟨by simp,dB W [a,b,c,d,e,f,g,h,i,j,k] t 4⟩,⟨by simp,dB W [a,b,c,d,e,f,g,h,i,j,k] t 5⟩,⟨by simp,dB W [a,b,c,d,e,f,g,h,i,j,k] t 6⟩,⟨by simp,dB W [a,b,c,d,e,f,g,h,i,j,k] t 7⟩,⟨by simp,dB W [a,b,c,d,e,f,g,h,i,j,k] t 8⟩,⟨by simp,dB W [a,b,c,d,e,f,g,h,i,j,k] t 9⟩,⟨by simp,dB W [a,b,c,d,e,f,g,h,i,j,k] t 10⟩,(hs.next (ak _ _)).2⟩
namespace Md
structure De where
 kind:Int
 line:Int
 nm:ByteArray
 size:Int
 init:Int
 on:ByteArray
def De.Ok (d:De):Prop:=fD d.kind∧fD d.line∧d.nm.size<=maxLen∧fD d.size∧fD d.init∧d.on.size<=maxLen
structure cB where
 op:Int
 line:Int
 nm:ByteArray
 arg:ByteArray
 idx:bC
 cu:Int
 xn:Int
 bZ:ByteArray
 aK:bC
inductive aH where
 |nil
 |cons (h:cB) (body els rest:aH)
def aH.len:aH->Nat
 | .nil=>0
 | .cons _ _ _ r=>r.len+1
def aH.All (Q:cB->aH->aH->Prop):aH->Prop
 | .nil=>True
 | .cons h b e r=>Q h b e∧r.All Q
theorem aH.lM {Q:cB->aH->aH->Prop} (step: ∀h b e,b.All Q->e.All Q->Q h b e): ∀l:aH,l.All Q
 | .nil=>trivial
 | .cons h b e r=>⟨step h b e (lM step b) (lM step e),lM step r⟩
theorem aH.wY {Q:cB->aH->aH->Prop} (step: ∀h b e,b.All Q->e.All Q->Q h b e) (h:cB) (b e:aH):Q h b e:=
 step h b e (aH.lM step b) (aH.lM step e)
structure Th where
 nm:ByteArray
 line:Int
 bg:List ByteArray
 body:aH
def eD (w:World) (B:Nat):List ByteArray->Option Addr->Nat->Prop
 | [],_,_=>True
 |s::r,ao,k=>(∃b off,ao=some ⟨b,off,none⟩∧b<B∧w.cell? ⟨b,off+k,none⟩=some (.string s)∧s.size<=maxLen)∧eD w B r ao (k+1)
def gM (w:World) (B:Nat):List De->Option Addr->Nat->Prop
 | [],_,_=>True
 |d::r,ao,k=>(∃b off,ao=some ⟨b,off,none⟩∧b<B∧w.cell? ⟨b,off+k*6,none⟩=some (.int .i64 d.kind)∧w.cell? ⟨b,off+k*6+1,none⟩=some (.int .i64 d.line)∧
   w.cell? ⟨b,off+k*6+2,none⟩=some (.string d.nm)∧w.cell? ⟨b,off+k*6+3,none⟩=some (.int .i64 d.size)∧w.cell? ⟨b,off+k*6+4,none⟩=some (.int .i64 d.init)∧
   w.cell? ⟨b,off+k*6+5,none⟩=some (.string d.on)∧d.Ok)∧gM w B r ao (k+1)
def uY (h:cB) (body els:aH):Prop:=
 fD h.op∧fD h.line∧h.nm.size<=maxLen∧h.arg.size<=maxLen∧h.idx.len<=maxLen∧sD h.cu h.xn h.bZ h.aK∧body.len<=maxLen∧els.len<=maxLen
def aH.At (w:World) (B:Nat):aH->Option Addr->Nat->Prop
 | .nil,_,_=>True
 | .cons h body els rest,ao,k=>
   (∃b off eu dI dR cO bR aY fH dX,ao=some ⟨b,off,none⟩∧b<B∧w.cell? ⟨b,off+k*11,none⟩=some (.int .i64 h.op)∧w.cell? ⟨b,off+k*11+1,none⟩=some (.int .i64 h.line)∧
    w.cell? ⟨b,off+k*11+2,none⟩=some (.string h.nm)∧w.cell? ⟨b,off+k*11+3,none⟩=some (.string h.arg)∧w.cell? ⟨b,off+k*11+4,none⟩=some (.slice eu h.idx.len dI)∧
    w.cell? ⟨b,off+k*11+5,none⟩=some (.int .i64 h.cu)∧w.cell? ⟨b,off+k*11+6,none⟩=some (.int .i64 h.xn)∧w.cell? ⟨b,off+k*11+7,none⟩=some (.string h.bZ)∧w.cell? ⟨b,off+k*11+8,none⟩=some (.slice dR h.aK.len cO)∧
    w.cell? ⟨b,off+k*11+9,none⟩=some (.slice bR body.len aY)∧w.cell? ⟨b,off+k*11+10,none⟩=some (.slice fH els.len dX)∧uY h body els∧
    h.idx.At w B eu 0∧h.aK.At w B dR 0∧body.At w B bR 0∧els.At w B fH 0)∧rest.At w B ao (k+1)
def Th.Ok (t:Th):Prop:=t.nm.size<=maxLen∧fD t.line∧t.bg.length<=maxLen∧t.body.len<=maxLen
def fQ (w:World) (B:Nat):List Th->Option Addr->Nat->Prop
 | [],_,_=>True
 |t::r,ao,k=>(∃b off fC dw bR aY,ao=some ⟨b,off,none⟩∧b<B∧w.cell? ⟨b,off+k*4,none⟩=some (.string t.nm)∧w.cell? ⟨b,off+k*4+1,none⟩=some (.int .i64 t.line)∧
   w.cell? ⟨b,off+k*4+2,none⟩=some (.slice fC t.bg.length dw)∧w.cell? ⟨b,off+k*4+3,none⟩=some (.slice bR t.body.len aY)∧t.Ok∧eD w B t.bg fC 0∧t.body.At w B bR 0∧t.bg.length<=dw)∧fQ w B r ao (k+1)
section
variable {w w':World} {B B':Nat}
theorem eD.below (hb:Below B w w'): ∀ {l:List ByteArray} {ao:Option Addr} {k:Nat},eD w B l ao k->eD w' B l ao k
 | [],_,_,_=>trivial
 |_::_,_,_,⟨⟨b,off,e,hB,c,hs⟩,hr⟩=>⟨⟨b,off,e,hB,(hb.cell hB).trans c,hs⟩,eD.below hb hr⟩
theorem eD.mono (h:B<=B'): ∀ {l:List ByteArray} {ao:Option Addr} {k:Nat},eD w B l ao k->eD w B' l ao k
 | [],_,_,_=>trivial
 |_::_,_,_,⟨⟨b,off,e,hB,c,hs⟩,hr⟩=>⟨⟨b,off,e,Nat.lt_of_lt_of_le hB h,c,hs⟩,eD.mono h hr⟩
theorem eD.same {l:List ByteArray} {ao:Option Addr} {k:Nat} (h:eD w w.heap.size l ao k) (hb:Below w.heap.size w w'):eD w' w'.heap.size l ao k:=(h.below hb).mono hb.size
theorem eD.drop: ∀ {l:List ByteArray} {ao:Option Addr} {k:Nat} (i:Nat),eD w B l ao k->eD w B (l.drop i) ao (k+i)
 |_,_,_,0,h=>h
 | [],_,_,_+1,_=>by simp[eD]
 |_::_,_,k,i+1,⟨_,hr⟩=>by have:=eD.drop i hr;rw[List.drop_succ_cons];rwa [Nat.add_assoc,Nat.add_comm 1 i]at this
theorem gM.below (hb:Below B w w'): ∀ {l:List De} {ao:Option Addr} {k:Nat},gM w B l ao k->gM w' B l ao k
 | [],_,_,_=>trivial
 |_::_,_,_,⟨⟨b,off,e,hB,c0,c1,c2,c3,c4,c5,hs⟩,hr⟩=>⟨⟨b,off,e,hB,(hb.cell hB).trans c0,(hb.cell hB).trans c1,(hb.cell hB).trans c2,(hb.cell hB).trans c3,(hb.cell hB).trans c4,(hb.cell hB).trans c5,hs⟩,gM.below hb hr⟩
theorem gM.mono (h:B<=B'): ∀ {l:List De} {ao:Option Addr} {k:Nat},gM w B l ao k->gM w B' l ao k
 | [],_,_,_=>trivial
 |_::_,_,_,⟨⟨b,off,e,hB,c⟩,hr⟩=>⟨⟨b,off,e,Nat.lt_of_lt_of_le hB h,c⟩,gM.mono h hr⟩
theorem gM.same {l:List De} {ao:Option Addr} {k:Nat} (h:gM w w.heap.size l ao k) (hb:Below w.heap.size w w'):gM w' w'.heap.size l ao k:=(h.below hb).mono hb.size
theorem gM.drop: ∀ {l:List De} {ao:Option Addr} {k:Nat} (i:Nat),gM w B l ao k->gM w B (l.drop i) ao (k+i)
 |_,_,_,0,h=>h
 | [],_,_,_+1,_=>by simp[gM]
 |_::_,_,k,i+1,⟨_,hr⟩=>by have:=gM.drop i hr;rw[List.drop_succ_cons];rwa [Nat.add_assoc,Nat.add_comm 1 i]at this
theorem eD.take: ∀ {pre R:List ByteArray} {ao:Option Addr} {k:Nat},eD w B (pre++R) ao k->eD w B pre ao k
 | [],_,_,_,_=>trivial
 |_::_,_,_,_,h=>⟨h.1,eD.take h.2⟩
theorem gM.take: ∀ {pre R:List De} {ao:Option Addr} {k:Nat},gM w B (pre++R) ao k->gM w B pre ao k
 | [],_,_,_,_=>trivial
 |_::_,_,_,_,h=>⟨h.1,gM.take h.2⟩
theorem aH.At.below (hb:Below B w w'): ∀ {l:aH} {ao:Option Addr} {k:Nat},l.At w B ao k->l.At w' B ao k
 | .nil,_,_,_=>trivial
 | .cons _ _ _ _,_,_,h=>by obtain⟨⟨b,off,eu,dI,dR,cO,bR,aY,fH,dX,e,hB,c0,c1,c2,c3,c4,c5,c6,c7,c8,c9,c10,hok,h1,h2,h3,h4⟩,hr⟩:=h;exact⟨⟨b,off,eu,dI,dR,cO,bR,aY,fH,dX,e,hB,(hb.cell hB).trans c0,(hb.cell hB).trans c1,(hb.cell hB).trans c2,(hb.cell hB).trans c3,(hb.cell hB).trans c4,(hb.cell hB).trans c5,(hb.cell hB).trans c6,(hb.cell hB).trans c7,(hb.cell hB).trans c8,(hb.cell hB).trans c9,(hb.cell hB).trans c10,hok,h1.below hb,h2.below hb,h3.below hb,h4.below hb⟩,hr.below hb⟩
theorem aH.At.mono (h:B<=B'): ∀ {l:aH} {ao:Option Addr} {k:Nat},l.At w B ao k->l.At w B' ao k
 | .nil,_,_,_=>trivial
 | .cons _ _ _ _,_,_,h'=>by obtain⟨⟨b,off,eu,dI,dR,cO,bR,aY,fH,dX,e,hB,c0,c1,c2,c3,c4,c5,c6,c7,c8,c9,c10,hok,h1,h2,h3,h4⟩,hr⟩:=h';exact⟨⟨b,off,eu,dI,dR,cO,bR,aY,fH,dX,e,Nat.lt_of_lt_of_le hB h,c0,c1,c2,c3,c4,c5,c6,c7,c8,c9,c10,hok,h1.mono h,h2.mono h,h3.mono h,h4.mono h⟩,hr.mono h⟩
theorem aH.At.same {l:aH} {ao:Option Addr} {k:Nat} (h:l.At w w.heap.size ao k) (hb:Below w.heap.size w w'):l.At w' w'.heap.size ao k:=(h.below hb).mono hb.size
theorem fQ.below (hb:Below B w w'): ∀ {l:List Th} {ao:Option Addr} {k:Nat},fQ w B l ao k->fQ w' B l ao k
 | [],_,_,_=>trivial
 |_::_,_,_,⟨⟨b,off,fC,dw,bR,aY,e,hB,c0,c1,c2,c3,hs,ht,hst⟩,hr⟩=>⟨⟨b,off,fC,dw,bR,aY,e,hB,(hb.cell hB).trans c0,(hb.cell hB).trans c1,(hb.cell hB).trans c2,(hb.cell hB).trans c3,hs,ht.below hb,hst.1.below hb,hst.2⟩,fQ.below hb hr⟩
theorem fQ.mono (h:B<=B'): ∀ {l:List Th} {ao:Option Addr} {k:Nat},fQ w B l ao k->fQ w B' l ao k
 | [],_,_,_=>trivial
 |_::_,_,_,⟨⟨b,off,fC,dw,bR,aY,e,hB,c0,c1,c2,c3,hs,ht,hst⟩,hr⟩=>⟨⟨b,off,fC,dw,bR,aY,e,Nat.lt_of_lt_of_le hB h,c0,c1,c2,c3,hs,ht.mono h,hst.1.mono h,hst.2⟩,fQ.mono h hr⟩
theorem fQ.same {l:List Th} {ao:Option Addr} {k:Nat} (h:fQ w w.heap.size l ao k) (hb:Below w.heap.size w w'):fQ w' w'.heap.size l ao k:=(h.below hb).mono hb.size
theorem fQ.drop: ∀ {l:List Th} {ao:Option Addr} {k:Nat} (i:Nat),fQ w B l ao k->fQ w B (l.drop i) ao (k+i)
 |_,_,_,0,h=>h
 | [],_,_,_+1,_=>by simp[fQ]
 |_::_,_,k,i+1,⟨_,hr⟩=>by have:=fQ.drop i hr;rw[List.drop_succ_cons];rwa [Nat.add_assoc,Nat.add_comm 1 i]at this
theorem fQ.take: ∀ {pre R:List Th} {ao:Option Addr} {k:Nat},fQ w B (pre++R) ao k->fQ w B pre ao k
 | [],_,_,_,_=>trivial
 |_::_,_,_,_,h=>⟨h.1,fQ.take h.2⟩
end
structure Pr where
 ds:List De
 ts:List Th
def Pr.At (w:World) (p:Pr) (aB aD:Option Addr):Prop:=p.ds.length<=maxLen∧p.ts.length<=maxLen∧gM w w.heap.size p.ds aB 0∧fQ w w.heap.size p.ts aD 0
theorem Pr.At.same {w w':World} {p:Pr} {aB aD:Option Addr} (h:p.At w aB aD) (hb:Below w.heap.size w w'):p.At w' aB aD:=⟨h.1,h.2.1,h.2.2.1.same hb,h.2.2.2.same hb⟩
def eO (d:De):Int:=
 if d.kind==1 then(if d.size==0 then 2 else 3)else if d.kind==2 then 2 else if d.kind==3 then 4 else if d.kind==4 then 5 else if d.kind==5 then 6 else if d.kind==6 then 7 else 9
def oN (ds:List De) (nm:ByteArray):Option Int:=(ds.find? λd=>d.nm.toList==nm.toList).map eO
def qV (ts:List Th) (nm:ByteArray):Int:=if ts.any λt=>t.nm.toList==nm.toList then 8 else 0
def pO (ts:List Th) (i:Int):List ByteArray:=if 0<=i then((ts[i.toNat]?).map (·.bg)).getD []else []
def qm (l:List ByteArray) (nm:ByteArray):Bool:=l.any λs=>s.toList==nm.toList
def mean (p:Pr) (i:Int) (nm:ByteArray):Int:=if qm (pO p.ts i) nm then 1 else(oN p.ds nm).getD (qV p.ts nm)
end Md
namespace Md
def fN (op:Int):Bool:=(op==1||(decide (4<=op)&&decide (op<=6)))||(decide (9<=op)&&decide (op<=15))
def fA (op:Int):Bool:=op==15
def fI (op:Int):Bool:=op==1
def fX (op:Int):Bool:=(op==1||op==2)||(op==3||op==14)
def fB (op:Int):Bool:=decide (2<=op)&&decide (op<=8)
def fE (op:Int):Bool:=op==2
def fO (op:Int):Bool:=decide (1<=op)&&decide (op<=15)
def pU (op n:Int) (nm:ByteArray) (len:Nat):Bool:=((op==0&&n==0)&&nm.toList.isEmpty)&&len==0
def iw (d:De):Bool:=(((decide (1<=d.kind)&&decide (d.kind<=6))&&Tk.iC d.nm.data.toList)&&(decide (0<=d.size)&&(d.size==0||d.kind==1)))&&(((d.init != -9223372036854775808)&&(d.init==0||(d.kind==1||d.kind==2)))&&jQ d.on (d.kind==5))
def mX (h:cB) (bl el:Nat):Bool:=
 ((fO h.op&&(jQ h.nm (fN h.op)&&jQ h.arg (fA h.op)))&&((decide (h.idx.len<=1)&&(!(h.idx.len==1)||fI h.op))&&kZ h.idx))&&
   ((if fX h.op then iY h.cu h.xn h.bZ h.aK else pU h.cu h.xn h.bZ h.aK.len)&&((fB h.op||bl==0)&&(fE h.op||el==0)))
def eG:aH->Bool
 | .nil=>true
 | .cons h b e r=>(mX h b.len e.len&&(eG b&&eG e))&&eG r
def AY (h:cB) (b e:aH):Bool:=mX h b.len e.len&&(eG b&&eG e)
theorem zQ (h:cB) (b e r:aH):eG (.cons h b e r)=(AY h b e&&eG r):=rfl
def nL (t:Th):Bool:=(Tk.iC t.nm.data.toList&&t.bg.all λs=>Tk.iC s.data.toList)&&eG t.body
def oZ (p:Pr):Bool:=(p.ds.all iw&&p.ts.all nL)&&decide ((0:Int)<p.ts.length)
theorem op1 {x:Int} (h:x=1):(x==1)=true∧(x==2)=false∧(x==3)=false∧(x==4)=false∧(x==5)=false∧(x==6)=false∧(x==7)=false∧(x==8)=false∧(x==9)=false∧(x==10)=false∧(x==11)=false∧(x==12)=false∧(x==13)=false∧(x==14)=false∧(x==15)=false:=by subst h;simp
theorem op2 {x:Int} (h:x=2):(x==1)=false∧(x==2)=true∧(x==3)=false∧(x==4)=false∧(x==5)=false∧(x==6)=false∧(x==7)=false∧(x==8)=false∧(x==9)=false∧(x==10)=false∧(x==11)=false∧(x==12)=false∧(x==13)=false∧(x==14)=false∧(x==15)=false:=by subst h;simp
theorem ZU {x:Int} (h:x=3):(x==1)=false∧(x==2)=false∧(x==3)=true∧(x==4)=false∧(x==5)=false∧(x==6)=false∧(x==7)=false∧(x==8)=false∧(x==9)=false∧(x==10)=false∧(x==11)=false∧(x==12)=false∧(x==13)=false∧(x==14)=false∧(x==15)=false:=by subst h;simp
theorem ZV {x:Int} (h:x=4):(x==1)=false∧(x==2)=false∧(x==3)=false∧(x==4)=true∧(x==5)=false∧(x==6)=false∧(x==7)=false∧(x==8)=false∧(x==9)=false∧(x==10)=false∧(x==11)=false∧(x==12)=false∧(x==13)=false∧(x==14)=false∧(x==15)=false:=by subst h;simp
theorem ZW {x:Int} (h:x=5):(x==1)=false∧(x==2)=false∧(x==3)=false∧(x==4)=false∧(x==5)=true∧(x==6)=false∧(x==7)=false∧(x==8)=false∧(x==9)=false∧(x==10)=false∧(x==11)=false∧(x==12)=false∧(x==13)=false∧(x==14)=false∧(x==15)=false:=by subst h;simp
theorem ZX {x:Int} (h:x=6):(x==1)=false∧(x==2)=false∧(x==3)=false∧(x==4)=false∧(x==5)=false∧(x==6)=true∧(x==7)=false∧(x==8)=false∧(x==9)=false∧(x==10)=false∧(x==11)=false∧(x==12)=false∧(x==13)=false∧(x==14)=false∧(x==15)=false:=by subst h;simp
theorem ZY {x:Int} (h:x=7):(x==1)=false∧(x==2)=false∧(x==3)=false∧(x==4)=false∧(x==5)=false∧(x==6)=false∧(x==7)=true∧(x==8)=false∧(x==9)=false∧(x==10)=false∧(x==11)=false∧(x==12)=false∧(x==13)=false∧(x==14)=false∧(x==15)=false:=by subst h;simp
theorem op8 {x:Int} (h:x=8):(x==1)=false∧(x==2)=false∧(x==3)=false∧(x==4)=false∧(x==5)=false∧(x==6)=false∧(x==7)=false∧(x==8)=true∧(x==9)=false∧(x==10)=false∧(x==11)=false∧(x==12)=false∧(x==13)=false∧(x==14)=false∧(x==15)=false:=by subst h;simp
theorem op9 {x:Int} (h:x=9):(x==1)=false∧(x==2)=false∧(x==3)=false∧(x==4)=false∧(x==5)=false∧(x==6)=false∧(x==7)=false∧(x==8)=false∧(x==9)=true∧(x==10)=false∧(x==11)=false∧(x==12)=false∧(x==13)=false∧(x==14)=false∧(x==15)=false:=by subst h;simp
theorem SL {x:Int} (h:x=10):(x==1)=false∧(x==2)=false∧(x==3)=false∧(x==4)=false∧(x==5)=false∧(x==6)=false∧(x==7)=false∧(x==8)=false∧(x==9)=false∧(x==10)=true∧(x==11)=false∧(x==12)=false∧(x==13)=false∧(x==14)=false∧(x==15)=false:=by subst h;simp
theorem SN {x:Int} (h:x=11):(x==1)=false∧(x==2)=false∧(x==3)=false∧(x==4)=false∧(x==5)=false∧(x==6)=false∧(x==7)=false∧(x==8)=false∧(x==9)=false∧(x==10)=false∧(x==11)=true∧(x==12)=false∧(x==13)=false∧(x==14)=false∧(x==15)=false:=by subst h;simp
theorem SQ {x:Int} (h:x=12):(x==1)=false∧(x==2)=false∧(x==3)=false∧(x==4)=false∧(x==5)=false∧(x==6)=false∧(x==7)=false∧(x==8)=false∧(x==9)=false∧(x==10)=false∧(x==11)=false∧(x==12)=true∧(x==13)=false∧(x==14)=false∧(x==15)=false:=by subst h;simp
theorem SV {x:Int} (h:x=13):(x==1)=false∧(x==2)=false∧(x==3)=false∧(x==4)=false∧(x==5)=false∧(x==6)=false∧(x==7)=false∧(x==8)=false∧(x==9)=false∧(x==10)=false∧(x==11)=false∧(x==12)=false∧(x==13)=true∧(x==14)=false∧(x==15)=false:=by subst h;simp
theorem SX {x:Int} (h:x=14):(x==1)=false∧(x==2)=false∧(x==3)=false∧(x==4)=false∧(x==5)=false∧(x==6)=false∧(x==7)=false∧(x==8)=false∧(x==9)=false∧(x==10)=false∧(x==11)=false∧(x==12)=false∧(x==13)=false∧(x==14)=true∧(x==15)=false:=by subst h;simp
theorem SY {x:Int} (h:x=15):(x==1)=false∧(x==2)=false∧(x==3)=false∧(x==4)=false∧(x==5)=false∧(x==6)=false∧(x==7)=false∧(x==8)=false∧(x==9)=false∧(x==10)=false∧(x==11)=false∧(x==12)=false∧(x==13)=false∧(x==14)=false∧(x==15)=true:=by subst h;simp
theorem kd1 {x:Int} (h:x=1):(x==1)=true∧(x==2)=false∧(x==3)=false∧(x==4)=false∧(x==5)=false∧(x==6)=false:=by subst h;simp
theorem kd2 {x:Int} (h:x=2):(x==1)=false∧(x==2)=true∧(x==3)=false∧(x==4)=false∧(x==5)=false∧(x==6)=false:=by subst h;simp
theorem kd3 {x:Int} (h:x=3):(x==1)=false∧(x==2)=false∧(x==3)=true∧(x==4)=false∧(x==5)=false∧(x==6)=false:=by subst h;simp
theorem kd4 {x:Int} (h:x=4):(x==1)=false∧(x==2)=false∧(x==3)=false∧(x==4)=true∧(x==5)=false∧(x==6)=false:=by subst h;simp
theorem kd5 {x:Int} (h:x=5):(x==1)=false∧(x==2)=false∧(x==3)=false∧(x==4)=false∧(x==5)=true∧(x==6)=false:=by subst h;simp
theorem kd6 {x:Int} (h:x=6):(x==1)=false∧(x==2)=false∧(x==3)=false∧(x==4)=false∧(x==5)=false∧(x==6)=true:=by subst h;simp
end Md
namespace Md
structure Sl where
 eu:Option Addr
 dI:Nat
 dR:Option Addr
 cO:Nat
 bR:Option Addr
 aY:Nat
 fH:Option Addr
 dX:Nat
def jD (h:cB) (b e:aH) (s:Sl):Value:= .agg #[.int .i64 h.op,.int .i64 h.line,.string h.nm,.string h.arg,.slice s.eu h.idx.len s.dI,.int .i64 h.cu,.int .i64 h.xn,.string h.bZ,.slice s.dR h.aK.len s.cO,.slice s.bR b.len s.aY,.slice s.fH e.len s.dX]
def ql (n:Nat) (h:cB) (b e:aH) (s:Sl) (fs:List (Nat×Nat×Value)):List (Nat×Nat×Value):=
 (n,0,.int .i64 h.op)::(n,1,.int .i64 h.line)::(n,2,.string h.nm)::(n,3,.string h.arg)::(n,4,.slice s.eu h.idx.len s.dI)::(n,5,.int .i64 h.cu)::(n,6,.int .i64 h.xn)::(n,7,.string h.bZ)::(n,8,.slice s.dR h.aK.len s.cO)::(n,9,.slice s.bR b.len s.aY)::(n,10,.slice s.fH e.len s.dX)::fs
def BO (w:World) (h:cB) (b e:aH) (s:Sl):Prop:=uY h b e∧h.idx.At w w.heap.size s.eu 0∧h.aK.At w w.heap.size s.dR 0∧b.At w w.heap.size s.bR 0∧e.At w w.heap.size s.fH 0
theorem BO.same {w w':World} {h:cB} {b e:aH} {s:Sl} (hi:BO w h b e s) (hb:Below w.heap.size w w'):BO w' h b e s:=
 ⟨hi.1,hi.2.1.same hb,hi.2.2.1.same hb,hi.2.2.2.1.same hb,hi.2.2.2.2.same hb⟩
theorem aH.At.head {w:World} {h:cB} {b e r:aH} {ao:Option Addr} {k:Nat} (hat:(aH.cons h b e r).At w w.heap.size ao k): ∃bl off s,ao=some ⟨bl,off,none⟩∧bl<w.heap.size∧BO w h b e s∧
 w.cell? ⟨bl,off+k*11,none⟩=some (.int .i64 h.op)∧w.cell? ⟨bl,off+k*11+1,none⟩=some (.int .i64 h.line)∧w.cell? ⟨bl,off+k*11+2,none⟩=some (.string h.nm)∧w.cell? ⟨bl,off+k*11+3,none⟩=some (.string h.arg)∧w.cell? ⟨bl,off+k*11+4,none⟩=some (.slice s.eu h.idx.len s.dI)∧
 w.cell? ⟨bl,off+k*11+5,none⟩=some (.int .i64 h.cu)∧w.cell? ⟨bl,off+k*11+6,none⟩=some (.int .i64 h.xn)∧w.cell? ⟨bl,off+k*11+7,none⟩=some (.string h.bZ)∧w.cell? ⟨bl,off+k*11+8,none⟩=some (.slice s.dR h.aK.len s.cO)∧
 w.cell? ⟨bl,off+k*11+9,none⟩=some (.slice s.bR b.len s.aY)∧w.cell? ⟨bl,off+k*11+10,none⟩=some (.slice s.fH e.len s.dX)∧r.At w w.heap.size ao (k+1):=by
 obtain⟨⟨b,off,eu,dI,dR,cO,bR,aY,fH,dX,e,hB,c0,c1,c2,c3,c4,c5,c6,c7,c8,c9,c10,hok,h1,h2,h3,h4⟩,hr⟩:=hat;exact⟨b,off,⟨eu,dI,dR,cO,bR,aY,fH,dX⟩,e,hB,⟨hok,h1,h2,h3,h4⟩,c0,c1,c2,c3,c4,c5,c6,c7,c8,c9,c10,hr⟩
end Md
theorem QT (n:Nat):decide ((n:Int)<=1)=decide (n<=1):=by rw[decide_eq_decide];omega
theorem QS (n:Nat):decide ((n:Int)=1)=(n==1):=by rw[Bool.eq_iff_iff,decide_eq_true_iff,beq_iff_eq];omega
theorem Ga (n:Nat):decide ((n:Int)<=0)=(n==0):=by rw[Bool.eq_iff_iff,decide_eq_true_iff,beq_iff_eq];omega
end Go.Proofs.YtkmllehjemjgpaaGreatDoor
