/- Plain functions of the parser: what a list of tokens says, and where it stops to fit. No program in sight. And what hangs on it. -/
import Derived.Test.YtkmllehjemjgpaaGreatDoorGA
import Derived.Test.YtkmllehjemjgpaaGreatDoorGMA
set_option linter.unusedSimpArgs false
set_option linter.unusedVariables false
set_option maxHeartbeats 40000000
set_option maxRecDepth 1000000
section
namespace Go.Proofs.YtkmllehjemjgpaaGreatDoor.Pz
open Go.RowKit Md Tk
abbrev aO:=List Tok
inductive nE (α:Type) where
 |ok (a:α) (rest:aO)
 |no (rest:aO)
structure E where
 op:Int
 n:Int
 nm:ByteArray
 kids:bC
def tx (l:List UInt8):ByteArray:=⟨l.toArray⟩
def nextK:aO->Nat
 | []=>0
 |t::_=>t.kind
def aQ:aO->List UInt8
 | []=>[]
 |t::_=>t.text
def dV:aO->Nat
 | []=>0
 |t::_=>t.line
def at' (x:List UInt8) (ts:aO):Bool:=(nextK ts==3||nextK ts==4)&&aQ ts==x
def isName (ts:aO):Bool:=nextK ts==1
def isNum (ts:aO):Bool:=nextK ts==2
def uU (x:List UInt8):Int×Int:=
 if x== [124,124]then(18,1)else if x== [38,38]then(17,2)else if x== [61,61]then(11,3)else if x== [33,61]then(12,3)else if x== [60]then(13,3)else if x== [60,61]then(14,3)
 else if x== [62]then(15,3)else if x== [62,61]then(16,3)else if x== [43]then(6,4)else if x== [45]then(7,4)else if x== [42]then(8,5)else if x== [47]then(9,5)else if x== [37]then(10,5)else(0,0)
def opAt (lv:Int) (ts:aO):Int:=if nextK ts==4&&(uU (aQ ts)).2==lv then(uU (aQ ts)).1 else 0
def mk1 (op:Int) (x:E):E:=⟨op,0,⟨#[]⟩,.cons x.op x.n x.nm x.kids .nil⟩
def mk2 (op:Int) (x y:E):E:=⟨op,0,⟨#[]⟩,.cons x.op x.n x.nm x.kids (.cons y.op y.n y.nm y.kids .nil)⟩
def QY (nm:ByteArray) (x:E):E:=⟨3,0,nm,.cons x.op x.n x.nm x.kids .nil⟩
def nE.map {α β:Type} (f:α->β):nE α->nE β
 | .ok a r=> .ok (f a) r
 | .no r=> .no r
def nE.close {α:Type} (x:List UInt8):nE α->nE α
 | .ok a r=>if at' x r then .ok a r.tail else .no r
 | .no r=> .no r
inductive M where
 |bin (lv:Nat)
 |lp (lv:Nat) (l:E)
 |un
 |pr
def pe:Nat->M->aO->nE E
 |0,_,ts=> .no ts
 |f+1,.bin lv,ts=>if 5<lv then pe f .un ts else
  match pe f (.bin (lv+1)) ts with
  | .no r=> .no r
  | .ok l r=>pe f (.lp lv l) r
 |f+1,.lp lv l,ts=>if opAt lv ts==0 then .ok l ts else
  match pe f (.bin (lv+1)) ts.tail with
  | .no r=> .no r
  | .ok x r=>if lv=3 then .ok (mk2 (opAt lv ts) l x) r else pe f (.lp lv (mk2 (opAt lv ts) l x)) r
 |f+1,.un,ts=>if at' [45] ts then(pe f .un ts.tail).map (mk1 4)else if at' [33] ts then(pe f .un ts.tail).map (mk1 5)else pe f .pr ts
 |f+1,.pr,ts=>if isNum ts then .ok ⟨1,(val (aQ ts):Nat),⟨#[]⟩,.nil⟩ ts.tail
  else if isName ts then
   (if at' [91] ts.tail then((pe f (.bin 1) ts.tail.tail).close [93]).map (λx=>⟨3,0,tx (aQ ts),.cons x.op x.n x.nm x.kids .nil⟩)else .ok ⟨2,0,tx (aQ ts),.nil⟩ ts.tail)
  else if at' [40] ts then(pe f (.bin 1) ts.tail).close [41]else .no ts
def expr (ts:aO):nE E:=pe (9*ts.length+9) (.bin 1) ts
def OY (x:List UInt8):Int:=
 if x== [105,102]then 2 else if x== [119,104,105,108,101]then 3 else if x== [108,111,99,107]then 4 else if x== [114,101,97,100]then 5 else if x== [119,114,105,116,101]then 6
 else if x== [116,114,97,110,115,97,99,116,105,111,110]then 7 else if x== [97,116,111,109,105,99]then 8 else if x== [119,97,105,116]then 9 else if x== [110,111,116,105,102,121]then 10
 else if x== [110,111,116,105,102,121,97,108,108]then 11 else if x== [115,112,97,119,110]then 12 else if x== [106,111,105,110]then 13 else if x== [115,101,116]then 14 else if x== [103,101,116]then 15 else 0
def hd (op line:Int):cB:=⟨op,line,⟨#[]⟩,⟨#[]⟩,.nil,0,0,⟨#[]⟩,.nil⟩
def cB.ex (h:cB) (x:E):cB:= {h with cu:=x.op,xn:=x.n,bZ:=x.nm,aK:=x.kids}
def one (h:cB) (b e:aH):aH:= .cons h b e .nil
def app:aH->aH->aH
 | .nil,l=>l
 | .cons h b e r,l=> .cons h b e (app r l)
def nE.bind {α β:Type} (r:nE α) (f:α->aO->nE β):nE β:=
 match r with
 | .ok a r=>f a r
 | .no r=> .no r
def Gd (ts:aO):nE ByteArray:=if isName ts then .ok (tx (aQ ts)) ts.tail else .no ts
def need (x:List UInt8) (ts:aO):nE Unit:=if at' x ts then .ok () ts.tail else .no ts
def asg (h:cB) (ts:aO):nE aH:=
 (if at' [91] ts then((expr ts.tail).close [93]).map (λx=> {h with idx:= .cons x.op x.n x.nm x.kids .nil})else .ok h ts).bind λh ts=>
  (need [61] ts).bind λ_ ts=>(((expr ts).map λx=>one (cB.ex h x) .nil .nil).close [59])
def ps:Nat->Bool->aO->nE aH
 |0,_,ts=> .no ts
 |f+1,false,ts=>if at' [125] ts then .ok .nil ts.tail else
  match ps f true ts with
  | .no r=> .no r
  | .ok s r=>(ps f false r).map (app s)
 |f+1,true,ts=>
  let blk:=λ(ts:aO)=>if at' [123] ts then ps f false ts.tail else .no ts
  if nextK ts==1 then asg {hd 1 (dV ts)with nm:=tx (aQ ts)} ts.tail
  else if nextK ts==3 then
   let op:=OY (aQ ts)
   let h:=hd op (dV ts)
   if op==0 then .no ts
   else if op==2 then(expr ts.tail).bind λx r=>(blk r).bind λb r=>if at' [101,108,115,101] r then(blk r.tail).map (one (cB.ex h x) b)else .ok (one (cB.ex h x) b .nil) r
   else if op==3 then(expr ts.tail).bind λx r=>(blk r).map λb=>one (cB.ex h x) b .nil
   else if op==7||op==8 then(blk ts.tail).map λb=>one h b .nil
   else(Gd ts.tail).bind λs r=>
    if op==4||op==5||op==6 then(blk r).map λb=>one {h with nm:=s} b .nil
    else if op==14 then((expr r).map λx=>one (cB.ex {h with nm:=s} x) .nil .nil).close [59]
    else if op==15 then((Gd r).map λa=>one {h with nm:=s,arg:=a} .nil .nil).close [59]
    else(need [59] r).map λ_=>one {h with nm:=s} .nil .nil
  else .no ts
def blk (f:Nat) (ts:aO):nE aH:=if at' [123] ts then ps f false ts.tail else .no ts
def pX (x:List UInt8):Int:=
 if x== [118,97,114]then 1 else if x== [118,111,108,97,116,105,108,101]then 2 else if x== [109,117,116,101,120]then 3 else if x== [114,119,108,111,99,107]then 4 else if x== [99,111,110,100]then 5 else if x== [102,117,116,117,114,101]then 6 else 0
def xq (d:De) (ts:aO):nE De:=
 if at' [91] ts then(if isNum ts.tail then(if val (aQ ts.tail)==0 then .no ts.tail else(need [93] ts.tail.tail).map λ_=> {d with size:=(val (aQ ts.tail):Nat)})else .no ts.tail)else .ok d ts
def yD (d:De) (ts:aO):nE De:=
 if at' [61] ts then
  (if at' [45] ts.tail then(if isNum ts.tail.tail then .ok {d with init:= -(val (aQ ts.tail.tail):Nat)} ts.tail.tail.tail else .no ts.tail.tail)
   else if isNum ts.tail then .ok {d with init:=(val (aQ ts.tail):Nat)} ts.tail.tail else .no ts.tail)
 else .ok d ts
def aB3 (ts:aO):nE De:=
 let k:=pX (aQ ts)
 ((Gd ts.tail).bind λs r=>
   let d:De:=⟨k,dV ts,s,0,0,⟨#[]⟩⟩
   if k==1 then(xq d r).bind yD
   else if k==2 then yD d r
   else if k==5 then(Gd r).map λo=> {d with on:=o}
   else .ok d r).close [59]
def ZQ:Nat->aO->nE (List ByteArray)
 |0,ts=> .no ts
 |f+1,ts=>(Gd ts).bind λs r=>if at' [44] r then(ZQ f r.tail).map (s:: ·)else .ok [s] r
def aX6 (ts:aO):nE Th:=
 (Gd ts.tail).bind λs r=>(need [40] r).bind λ_ r=>
  (if at' [41] r then .ok [] r.tail else(ZQ (r.length+1) r).close [41]).bind λl r=>
   (blk (3*r.length+3) r).map λb=>⟨s,dV ts,l,b⟩
def isDecl (ts:aO):Bool:=nextK ts==3&& !(pX (aQ ts)==0)
def UA:Nat->aO->nE (List De)
 |0,ts=> .ok [] ts
 |f+1,ts=>if isDecl ts then(aB3 ts).bind λd r=>(UA f r).map (d:: ·)else .ok [] ts
def aa3:Nat->aO->nE (List Th)
 |0,ts=> .ok [] ts
 |f+1,ts=>if at' [116,104,114,101,97,100] ts then(aX6 ts).bind λt r=>(aa3 f r).map (t:: ·)else .ok [] ts
def prog (ts:aO):nE Pr:=(UA ts.length ts).bind λds r=>(aa3 r.length r).map λth=>⟨ds,th⟩
end Go.Proofs.YtkmllehjemjgpaaGreatDoor.Pz
end
section
namespace Go.Proofs.YtkmllehjemjgpaaGreatDoor.Pz
open Go.RowKit Md Tk
theorem Uh {x:List UInt8} {ts:aO} (h:at' x ts=true): ∃t r,ts=t::r:=by
 cases ts with
 |nil=>exact absurd h (by simp[at',nextK])
 |cons t r=>exact⟨t,r,rfl⟩
end Go.Proofs.YtkmllehjemjgpaaGreatDoor.Pz
end
section
namespace Go.Proofs.YtkmllehjemjgpaaGreatDoor.Pz
open Go.RowKit Md Tk
def Ub (t:Tok):Prop:=(t.kind=1->iC t.text=true)∧(t.kind=2->(t.text.isEmpty=false∧t.text.all kJ=true)∧wX t.text=true)∧(t.kind=3->sS t.text=true)∧t.kind<=4
theorem J6 (p:UInt8->Bool): ∀l:List UInt8,(l.takeWhile p).all p=true
 | []=>rfl
 |c::r=>by
  rw[List.takeWhile_cons];by_cases h:p c=true
  ·rw[if_pos h,List.all_cons,h,J6 p r];rfl
  ·rw[if_neg h];rfl
end Go.Proofs.YtkmllehjemjgpaaGreatDoor.Pz
end
section
namespace Go.Proofs.YtkmllehjemjgpaaGreatDoor.Pz
open Go.RowKit Md Tk
def TL (N:Nat) (t:Tok):Prop:=(1<=t.line∧t.line<=N)∧1<=t.kind∧(t.kind=4->sgs.contains t.text=true)∧t.text.length<=N
def Uc (ts:aO):Prop:= ∀t∈ts,TL 4097 t
theorem Uc.tail {ts:aO} (h:Uc ts):Uc ts.tail:=λt ht=>h t (List.mem_of_mem_tail ht)
end Go.Proofs.YtkmllehjemjgpaaGreatDoor.Pz
end
