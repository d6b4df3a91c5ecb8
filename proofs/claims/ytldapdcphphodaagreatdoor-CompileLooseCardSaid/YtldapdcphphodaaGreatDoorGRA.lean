/- Plain functions of the parser: what a list of tokens says, and where it stops to fit. No program in sight. And what hangs on it. -/
import Derived.Test.YtldapdcphphodaaGreatDoorGMB
import Derived.Lib.ParseIntB
import Derived.Deep.CutBlock
import Derived.Lib.AtoiErrMem
import Derived.Test.YtldapdcphphodaaGreatDoorShelf
import Derived.Deep.LoopGhost
set_option linter.unusedSimpArgs false
set_option linter.unusedVariables false
set_option maxHeartbeats 40000000
set_option maxRecDepth 1000000
section
namespace Go.Proofs.YtldapdcphphodaaGreatDoor.Pz
open Go.RowKit Md Tk
abbrev bL:=List Tok
inductive oO (α:Type) where
 |ok (a:α) (rest:bL)
 |no (rest:bL)
structure E where
 op:Int
 n:Int
 nm:ByteArray
 kids:bY
def tx (l:List UInt8):ByteArray:=⟨l.toArray⟩
def nextK:bL->Nat
 | []=>0
 |t::_=>t.kind
def bU:bL->List UInt8
 | []=>[]
 |t::_=>t.text
def fP:bL->Nat
 | []=>0
 |t::_=>t.line
def at' (x:List UInt8) (ts:bL):Bool:=(nextK ts==3||nextK ts==4)&&bU ts==x
def isName (ts:bL):Bool:=nextK ts==1
def isNum (ts:bL):Bool:=nextK ts==2
def wE (x:List UInt8):Int×Int:=
 if x== [124,124]then(18,1)else if x== [38,38]then(17,2)else if x== [61,61]then(11,3)else if x== [33,61]then(12,3)else if x== [60]then(13,3)else if x== [60,61]then(14,3)
 else if x== [62]then(15,3)else if x== [62,61]then(16,3)else if x== [43]then(6,4)else if x== [45]then(7,4)else if x== [42]then(8,5)else if x== [47]then(9,5)else if x== [37]then(10,5)else(0,0)
def opAt (lv:Int) (ts:bL):Int:=if nextK ts==4&&(wE (bU ts)).2==lv then(wE (bU ts)).1 else 0
def mk1 (op:Int) (x:E):E:=⟨op,0,⟨#[]⟩,.cons x.op x.n x.nm x.kids .nil⟩
def mk2 (op:Int) (x y:E):E:=⟨op,0,⟨#[]⟩,.cons x.op x.n x.nm x.kids (.cons y.op y.n y.nm y.kids .nil)⟩
def TR (nm:ByteArray) (x:E):E:=⟨3,0,nm,.cons x.op x.n x.nm x.kids .nil⟩
def oO.map {α β:Type} (f:α->β):oO α->oO β
 | .ok a r=> .ok (f a) r
 | .no r=> .no r
def oO.close {α:Type} (x:List UInt8):oO α->oO α
 | .ok a r=>if at' x r then .ok a r.tail else .no r
 | .no r=> .no r
inductive M where
 |bin (lv:Nat)
 |lp (lv:Nat) (l:E)
 |un
 |pr
def pe:Nat->M->bL->oO E
 |0,_,ts=> .no ts
 |f+1,.bin lv,ts=>if 5<lv then pe f .un ts else
  match pe f (.bin (lv+1)) ts with
  | .no r=> .no r
  | .ok l r=>pe f (.lp lv l) r
 |f+1,.lp lv l,ts=>if opAt lv ts==0 then .ok l ts else
  match pe f (.bin (lv+1)) ts.tail with
  | .no r=> .no r
  | .ok x r=>if lv=3 then .ok (mk2 (opAt lv ts) l x) r else pe f (.lp lv (mk2 (opAt lv ts) l x)) r
 |f+1,.un,ts=>if at' [45] ts then(pe f .un ts.tail).map (mk1 4)else if at' [33] ts then(pe f .un ts.tail).map (mk1 5)else pe f .pr ts
 |f+1,.pr,ts=>if isNum ts then .ok ⟨1,(val (bU ts):Nat),⟨#[]⟩,.nil⟩ ts.tail
  else if isName ts then
   (if at' [91] ts.tail then((pe f (.bin 1) ts.tail.tail).close [93]).map (λx=>⟨3,0,tx (bU ts),.cons x.op x.n x.nm x.kids .nil⟩)else .ok ⟨2,0,tx (bU ts),.nil⟩ ts.tail)
  else if at' [40] ts then(pe f (.bin 1) ts.tail).close [41]else .no ts
def expr (ts:bL):oO E:=pe (9*ts.length+9) (.bin 1) ts
def Rh (x:List UInt8):Int:=
 if x== [105,102]then 2 else if x== [119,104,105,108,101]then 3 else if x== [108,111,99,107]then 4 else if x== [114,101,97,100]then 5 else if x== [119,114,105,116,101]then 6
 else if x== [116,114,97,110,115,97,99,116,105,111,110]then 7 else if x== [97,116,111,109,105,99]then 8 else if x== [119,97,105,116]then 9 else if x== [110,111,116,105,102,121]then 10
 else if x== [110,111,116,105,102,121,97,108,108]then 11 else if x== [115,112,97,119,110]then 12 else if x== [106,111,105,110]then 13 else if x== [115,101,116]then 14 else if x== [103,101,116]then 15 else 0
def hd (op line:Int):dM:=⟨op,line,⟨#[]⟩,⟨#[]⟩,.nil,0,0,⟨#[]⟩,.nil⟩
def dM.ex (h:dM) (x:E):dM:= {h with dQ:=x.op,xn:=x.n,dP:=x.nm,bG:=x.kids}
def one (h:dM) (b e:aY):aY:= .cons h b e .nil
def app:aY->aY->aY
 | .nil,l=>l
 | .cons h b e r,l=> .cons h b e (app r l)
def oO.bind {α β:Type} (r:oO α) (f:α->bL->oO β):oO β:=
 match r with
 | .ok a r=>f a r
 | .no r=> .no r
def Iz (ts:bL):oO ByteArray:=if isName ts then .ok (tx (bU ts)) ts.tail else .no ts
def need (x:List UInt8) (ts:bL):oO Unit:=if at' x ts then .ok () ts.tail else .no ts
def asg (h:dM) (ts:bL):oO aY:=
 (if at' [91] ts then((expr ts.tail).close [93]).map (λx=> {h with idx:= .cons x.op x.n x.nm x.kids .nil})else .ok h ts).bind λh ts=>
  (need [61] ts).bind λ_ ts=>(((expr ts).map λx=>one (dM.ex h x) .nil .nil).close [59])
def ps:Nat->Bool->bL->oO aY
 |0,_,ts=> .no ts
 |f+1,false,ts=>if at' [125] ts then .ok .nil ts.tail else
  match ps f true ts with
  | .no r=> .no r
  | .ok s r=>(ps f false r).map (app s)
 |f+1,true,ts=>
  let blk:=λ(ts:bL)=>if at' [123] ts then ps f false ts.tail else .no ts
  if nextK ts==1 then asg {hd 1 (fP ts)with nm:=tx (bU ts)} ts.tail
  else if nextK ts==3 then
   let op:=Rh (bU ts)
   let h:=hd op (fP ts)
   if op==0 then .no ts
   else if op==2 then(expr ts.tail).bind λx r=>(blk r).bind λb r=>if at' [101,108,115,101] r then(blk r.tail).map (one (dM.ex h x) b)else .ok (one (dM.ex h x) b .nil) r
   else if op==3 then(expr ts.tail).bind λx r=>(blk r).map λb=>one (dM.ex h x) b .nil
   else if op==7||op==8 then(blk ts.tail).map λb=>one h b .nil
   else(Iz ts.tail).bind λs r=>
    if op==4||op==5||op==6 then(blk r).map λb=>one {h with nm:=s} b .nil
    else if op==14 then((expr r).map λx=>one (dM.ex {h with nm:=s} x) .nil .nil).close [59]
    else if op==15 then((Iz r).map λa=>one {h with nm:=s,arg:=a} .nil .nil).close [59]
    else(need [59] r).map λ_=>one {h with nm:=s} .nil .nil
  else .no ts
def blk (f:Nat) (ts:bL):oO aY:=if at' [123] ts then ps f false ts.tail else .no ts
def qQ (x:List UInt8):Int:=
 if x== [118,97,114]then 1 else if x== [118,111,108,97,116,105,108,101]then 2 else if x== [109,117,116,101,120]then 3 else if x== [114,119,108,111,99,107]then 4 else if x== [99,111,110,100]then 5 else if x== [102,117,116,117,114,101]then 6 else 0
def yE (d:De) (ts:bL):oO De:=
 if at' [91] ts then(if isNum ts.tail then(if val (bU ts.tail)==0 then .no ts.tail else(need [93] ts.tail.tail).map λ_=> {d with size:=(val (bU ts.tail):Nat)})else .no ts.tail)else .ok d ts
def zK (d:De) (ts:bL):oO De:=
 if at' [61] ts then
  (if at' [45] ts.tail then(if isNum ts.tail.tail then .ok {d with init:= -(val (bU ts.tail.tail):Nat)} ts.tail.tail.tail else .no ts.tail.tail)
   else if isNum ts.tail then .ok {d with init:=(val (bU ts.tail):Nat)} ts.tail.tail else .no ts.tail)
 else .ok d ts
def aR4 (ts:bL):oO De:=
 let k:=qQ (bU ts)
 ((Iz ts.tail).bind λs r=>
   let d:De:=⟨k,fP ts,s,0,0,⟨#[]⟩⟩
   if k==1 then(yE d r).bind zK
   else if k==2 then zK d r
   else if k==5 then(Iz r).map λo=> {d with on:=o}
   else .ok d r).close [59]
def an6:Nat->bL->oO (List ByteArray)
 |0,ts=> .no ts
 |f+1,ts=>(Iz ts).bind λs r=>if at' [44] r then(an6 f r.tail).map (s:: ·)else .ok [s] r
def br5 (ts:bL):oO Th:=
 (Iz ts.tail).bind λs r=>(need [40] r).bind λ_ r=>
  (if at' [41] r then .ok [] r.tail else(an6 (r.length+1) r).close [41]).bind λl r=>
   (blk (3*r.length+3) r).map λb=>⟨s,fP ts,l,b⟩
def isDecl (ts:bL):Bool:=nextK ts==3&& !(qQ (bU ts)==0)
def Xb:Nat->bL->oO (List De)
 |0,ts=> .ok [] ts
 |f+1,ts=>if isDecl ts then(aR4 ts).bind λd r=>(Xb f r).map (d:: ·)else .ok [] ts
def ao6:Nat->bL->oO (List Th)
 |0,ts=> .ok [] ts
 |f+1,ts=>if at' [116,104,114,101,97,100] ts then(br5 ts).bind λt r=>(ao6 f r).map (t:: ·)else .ok [] ts
def prog (ts:bL):oO Pr:=(Xb ts.length ts).bind λds r=>(ao6 r.length r).map λth=>⟨ds,th⟩
end Go.Proofs.YtldapdcphphodaaGreatDoor.Pz
end
section
namespace Go.Proofs.YtldapdcphphodaaGreatDoor.Pz
open Go.RowKit Md Tk
theorem WM {x:List UInt8} {ts:bL} (h:at' x ts=true): ∃t r,ts=t::r:=by
 cases ts with
 |nil=>exact absurd h (by simp[at',nextK])
 |cons t r=>exact⟨t,r,rfl⟩
end Go.Proofs.YtldapdcphphodaaGreatDoor.Pz
end
section
namespace Go.Proofs.YtldapdcphphodaaGreatDoor.Pz
open Go.RowKit Md Tk
def WG (t:Tok):Prop:=(t.kind=1->iZ t.text=true)∧(t.kind=2->(t.text.isEmpty=false∧t.text.all lT=true)∧yA t.text=true)∧(t.kind=3->uN t.text=true)∧t.kind<=4
theorem KE (p:UInt8->Bool): ∀l:List UInt8,(l.takeWhile p).all p=true
 | []=>rfl
 |c::r=>by
  rw[List.takeWhile_cons];by_cases h:p c=true
  ·rw[if_pos h,List.all_cons,h,KE p r];rfl
  ·rw[if_neg h];rfl
end Go.Proofs.YtldapdcphphodaaGreatDoor.Pz
end
section
namespace Go.Proofs.YtldapdcphphodaaGreatDoor.Pz
open Go.RowKit Md Tk
def Gg (ts:bL):Prop:= ∀t∈ts,WG t
theorem Gg.tail {ts:bL} (h:Gg ts):Gg ts.tail:=λt ht=>h t (List.mem_of_mem_tail ht)
theorem xG {ts:bL} (h:Gg ts) (hn:isName ts=true):iZ (bU ts)=true:=by
 cases ts with
 |nil=>exact absurd hn (by simp[isName,nextK])
 |cons t r=>exact(h t ahg).1 (by simpa[isName,nextK]using hn)
theorem YO {ts:bL} (h:Gg ts) (hn:isNum ts=true):((bU ts).isEmpty=false∧(bU ts).all lT=true)∧yA (bU ts)=true:=by
 cases ts with
 |nil=>exact absurd hn (by simp[isNum,nextK])
 |cons t r=>exact(h t ahg).2.1 (by simpa[isNum,nextK]using hn)
theorem MK (l:List UInt8):(tx l).data.toList=l:=by simp[tx]
end Go.Proofs.YtldapdcphphodaaGreatDoor.Pz
end
section
namespace Go.Proofs.YtldapdcphphodaaGreatDoor.Pz
open Go.RowKit Md Tk
end Go.Proofs.YtldapdcphphodaaGreatDoor.Pz
end
section
namespace Go.Proofs.YtldapdcphphodaaGreatDoor.Pz
open Go.RowKit Md Tk
theorem Yc {ts:bL} (hT:Gg ts) (h:isNum ts=true):(val (bU ts):Int)<=9223372036854775807:=by
 have:=(YO hT h).2;unfold yA at this;have:=of_decide_eq_true this;omega
theorem aq9 (x:List UInt8):(qQ x==0)=false->1<=qQ x∧qQ x<=6:=by
 intro h;unfold qQ at h⊢;grind (splits:=40)
end Go.Proofs.YtldapdcphphodaaGreatDoor.Pz
end
section
namespace Go.Proofs.YtldapdcphphodaaGreatDoor.Pz
open Go.RowKit Md Tk
def yF (n:Nat) (c:UInt8):Nat:=10*n+(c.toNat -48)
theorem Tw: ∀(l:List UInt8) (a:Nat),a<=l.foldl yF a
 | [],a=>aH a
 |c::r,a=>aR (by unfold yF;omega) (Tw r (yF a c))
theorem TM {c:UInt8} (h:lT c=true):48<=c.toNat∧c.toNat<=57:=by
 unfold lT rM at h;rw[aP]at h;have h1:=of_decide_eq_true h.1;have h2:=of_decide_eq_true h.2;omega
theorem ap4 {M:Nat} (hM:9223372036854775807<=M): ∀(l:List UInt8) (a:Nat),l.all lT=true->l.foldl yF a<=9223372036854775807->Lib.parseUintM M a l= .ok (l.foldl yF a)
 | [],a,_,_=>rfl
 |c::r,a,h,hv=>by
  rw[List.all_cons,aP]at h;have hd:=TM h.1;have hv':r.foldl yF (yF a c)<=9223372036854775807:=hv;have hg:=Tw r (yF a c);have ih:=ap4 hM r (yF a c) h.2 hv';have hs:yF a c=a*10+(c.toNat -48):=by unfold yF;omega
  unfold Lib.parseUintM;rw[if_pos hd,if_neg ahe,if_neg ahe,<- hs,ih];rfl
theorem Yn {l:List UInt8} (h1:l.isEmpty=false) (h2:l.all lT=true) (h3:yA l=true):Lib.parseIntB 64 l= .ok (val l:Int):=by
 have hv:val l<=9223372036854775807:=of_decide_eq_true h3;cases l with
 |nil=>cases h1
 |cons c r=>
  have hd:=TM (by rw[List.all_cons,aP]at h2;exact h2.1);have hu:Lib.parseUintB 64 (c::r)= .ok (val (c::r)):=by unfold Lib.parseUintB;rw[if_neg ahg];exact ap4 ahf (c::r) 0 h2 hv
  unfold Lib.parseIntB;dsimp only;rw[if_neg ahe,hu];dsimp only
  rw[if_neg (by rintro⟨-,h⟩;have:(2:Nat) ^ (64 -1)=9223372036854775808:=by decide
                omega),if_neg (by rintro⟨h,-⟩;omega),if_neg ahe]
end Go.Proofs.YtldapdcphphodaaGreatDoor.Pz
end
section
namespace Go.Proofs.YtldapdcphphodaaGreatDoor.Pz
open Go.RowKit Md Tk
def TL (N:Nat) (t:Tok):Prop:=(1<=t.line∧t.line<=N)∧1<=t.kind∧(t.kind=4->sgs.contains t.text=true)∧t.text.length<=N
def WH (ts:bL):Prop:= ∀t∈ts,TL 4097 t
theorem WH.tail {ts:bL} (h:WH ts):WH ts.tail:=λt ht=>h t (List.mem_of_mem_tail ht)
end Go.Proofs.YtldapdcphphodaaGreatDoor.Pz
end
section
namespace Go.Proofs.YtldapdcphphodaaGreatDoor
open Go.RowKit
open Md Pz
theorem Ou {a b:Int} (h:a=b):Ending.returned (.int .i64 a)= .returned (.int .i64 b):=by rw[h]
theorem Gu (x:ByteArray) {l:List UInt8} (hx:x.data.toList=l) (w:World):
 Calls Tryz.prog 111 #[.string x] w λe w'=>e= .returned (.int .i64 (qQ l))∧w=w':=by
 have hl:x.toList=l:=adT
 go_enter Tryz.func111,Tryz.ntmps111;go_wp2
 all_goals go_ret
 all_goals exact⟨Ou (by unfold qQ;simp only[*];rfl),rfl⟩
theorem aO3 {a b c d:Int} (h:(a,c)=(b,d)):Ending.returned (.tuple #[.int .i64 a,.int .i64 c])= .returned (.tuple #[.int .i64 b,.int .i64 d]):=by
 injection h with h1 h2;rw[h1,h2]
theorem Gl (x:ByteArray) {l:List UInt8} (hx:x.data.toList=l) (w:World):
 Calls Tryz.prog 208 #[.string x] w λe w'=>e= .returned (.tuple #[.int .i64 (wE l).1,.int .i64 (wE l).2])∧w=w':=by
 have hl:x.toList=l:=adT
 go_enter Tryz.func208,Tryz.ntmps208;go_wp2
 all_goals go_ret2
 all_goals exact⟨aO3 (by unfold wE;simp only[*];rfl),rfl⟩
def rdV (op:Int):Value:=
 if op==2 then .func (.func 181) #[] #[]else if op==3 then .func (.func 182) #[] #[]
 else if op==4||op==5||op==6 then .func (.func 183) #[] #[]else if op==7||op==8 then .func (.func 184) #[] #[]
 else if op==14 then .func (.func 186) #[] #[]else if op==15 then .func (.func 187) #[] #[]
 else if op==0 then .nilFunc else .func (.func 185) #[] #[]
theorem aT1 {a b:Int} {v:Value} (h:a=b) (hv:v=rdV a):Ending.returned (.tuple #[.int .i64 a,v])= .returned (.tuple #[.int .i64 b,rdV b]):=by rw[<- h,hv]
theorem af4 (x:ByteArray) {l:List UInt8} (hx:x.data.toList=l) (w:World):
 Calls Tryz.prog 174 #[.string x] w λe w'=>e= .returned (.tuple #[.int .i64 (Rh l),rdV (Rh l)])∧w=w':=by
 have hl:x.toList=l:=adT
 go_enter Tryz.func174,Tryz.ntmps174;go_wp2
 all_goals go_ret2
 all_goals exact⟨aT1 (by unfold Rh;simp only[*];rfl) aip,rfl⟩
end Go.Proofs.YtldapdcphphodaaGreatDoor
end
section
namespace Go.Proofs.YtldapdcphphodaaGreatDoor
open Go.RowKit
open Md Pz
def wK (w:World) (B:Nat):bL->Option Addr->Nat->Prop
 | [],_,_=>True
 |t::r,ao,k=>(∃b off,ao=some ⟨b,off,none⟩∧b<B∧w.cell? ⟨b,off+k*3,none⟩=some (.int .i64 (t.kind:Int))∧w.cell? ⟨b,off+k*3+1,none⟩=some (.string (tx t.text))∧w.cell? ⟨b,off+k*3+2,none⟩=some (.int .i64 (t.line:Int)))∧wK w B r ao (k+1)
theorem wK.below {w w':World} {B:Nat} (hb:Below B w w'): ∀ {l:bL} {ao:Option Addr} {k:Nat},wK w B l ao k->wK w' B l ao k
 | [],_,_,_=>trivial
 |_::_,_,_,⟨⟨b,off,e,hB,c0,c1,c2⟩,hr⟩=>⟨⟨b,off,e,hB,(hb.cell hB).trans c0,(hb.cell hB).trans c1,(hb.cell hB).trans c2⟩,wK.below hb hr⟩
theorem wK.drop {w:World} {B:Nat} : ∀ {l:bL} {ao:Option Addr} {k:Nat} (i:Nat),wK w B l ao k->wK w B (l.drop i) ao (k+i)
 |_,_,_,0,h=>h
 | [],_,_,_+1,_=>by simp[wK]
 |_::_,_,k,i+1,⟨_,hr⟩=>by have:=wK.drop i hr;rw[List.drop_succ_cons];rwa [Nat.add_assoc,Nat.add_comm 1 i]at this
structure Rp where
 B0:Nat
 br:Nat
 ao:Option Addr
 cap:Nat
 ts:bL
 b0:B0<=br
structure eP (w:World) (R:Rp) (rest:bL):Prop where
 blk: ∃pos:Nat,pos<=R.ts.length∧R.ts.drop pos=rest∧w.heap[R.br]? =some (.cells #[.slice R.ao R.ts.length R.cap,.int .i64 (pos:Int)] 140 (0,0))
 tok:wK w R.B0 R.ts R.ao 0
 ok:Gg R.ts∧R.ts.length<=4096
 tl:WH R.ts
theorem eP.lt {w:World} {R:Rp} {rest:bL} (h:eP w R rest):R.br<w.heap.size:=by obtain⟨a,-,-,h⟩:=h.blk;exact(aU h)
theorem eP.ts {w:World} {R:Rp} {rest:bL} (h:eP w R rest):Gg rest:=by
 obtain⟨a,-,rfl,-⟩:=h.blk;exact λt ht=>h.ok.1 t (List.mem_of_mem_drop ht)
theorem eP.tsl {w:World} {R:Rp} {rest:bL} (h:eP w R rest):WH rest:=by
 obtain⟨a,-,rfl,-⟩:=h.blk;exact λt ht=>h.tl t (List.mem_of_mem_drop ht)
theorem eP.len {w:World} {R:Rp} {rest:bL} (h:eP w R rest):rest.length<=4096:=by
 obtain⟨a,-,rfl,-⟩:=h.blk;have:=h.ok.2;simp;omega
theorem eP.below {w w':World} {R:Rp} {rest:bL} (h:eP w R rest) (hb:Below w.heap.size w w'):eP w' R rest:=by
 obtain⟨a,h1,h2,h3⟩:=h.blk;exact⟨⟨a,h1,h2,(hb.block _ h.lt).trans h3⟩,h.tok.below (hb.mono (aR R.b0 (bM h.lt))),h.ok,h.tl⟩
theorem eP.next {w:World} {R:Rp} {t:Tk.Tok} {r:bL} {pos:Nat} (h:eP w R (t::r)) (hd:R.ts.drop pos=t::r) (hb:w.heap[R.br]? =some (.cells #[.slice R.ao R.ts.length R.cap,.int .i64 (pos:Int)] 140 (0,0))):eP (w.setCell ⟨R.br,1,none⟩ (.int .i64 ((pos:Int)+1))) R r:=by
 have hlt:pos<R.ts.length:=acr
 refine⟨⟨pos+1,hlt,?_,by rw[dX hb];rfl⟩,h.tok.below (cZ (cB _ _ _) R.b0 (aR R.b0 (bM h.lt))),h.ok,h.tl⟩;rw[<- List.drop_drop,hd];rfl
def wR (ts:bL):Value:= .agg #[.int .i64 (nextK ts:Nat),.string (tx (bU ts)),.int .i64 (fP ts:Nat)]
theorem CO (w:World) (cs:Array Value) (t:TypeId) (n:Nat):Below w.heap.size w ((w.alloc (.cells cs t)).drewN n)∧((w.alloc (.cells cs t)).drewN n).heap[w.heap.size]? =some (.cells cs t (0,0)):=
 ⟨below_drewN (aA _ _) n,((below_drewN (ak (w.alloc (.cells cs t)).heap.size _) n).block _ ahg).trans (heap_alloc_new w _)⟩
theorem pU {B:Nat} {w w':World} (h:Below B w w') (a:Addr) (v:Value) (hb:B<=a.block):Below B w (w'.setCell a v):=
 ⟨h.os,h.tape,h.output,abp,λk hk=>(dB w' a v rfl ahe).trans (h.block k hk)⟩
theorem aT7 {w:World} {B:Nat} : ∀ {l:bL} {ao:Option Addr} {k:Nat} {t:Tk.Tok} {r:bL},l=t::r->wK w B l ao k->∃b off,ao=some ⟨b,off,none⟩∧b<B∧w.cell? ⟨b,off+k*3,none⟩=some (.int .i64 (t.kind:Int))∧w.cell? ⟨b,off+k*3+1,none⟩=some (.string (tx t.text))∧w.cell? ⟨b,off+k*3+2,none⟩=some (.int .i64 (t.line:Int))
 |_,_,_,_,_,rfl,h=>h.1
theorem qU (R:Rp) (rest:bL) (w:World) (hI:eP w R rest):
 Calls Tryz.prog 110 #[.pointer (some ⟨R.br,0,none⟩)] w λe w'=>e= .returned (wR rest)∧Below w.heap.size w w':=by
 obtain⟨pos,hp,hd,hblk⟩:=hI.blk;have HI:=ah hI;have HD:=ah hd;obtain⟨c0,c1⟩:=nT hblk;have hl:=hI.ok.2;have hlt:=hI.lt;clear hI hd hblk;by_cases hlt2:R.ts.length<=pos
 ·have hq:decide ((R.ts.length:Int)<=(pos:Int))=true:=by rw[decide_eq_true_iff];omega
  have HR:aj (rest=[]):=ah (by rw[<- HD.o];exact List.drop_eq_nil_iff.2 hlt2);go_enter Tryz.func110,Tryz.ntmps110;go_upto_region 1 with fail;go_quiet (fail);generalize hW:World.drewN (World.alloc w _) _=W1;have HB1:aj (Below w.heap.size w W1):=ah aeO;have Cu:aj (W1.heap[w.heap.size]? =some (.cells #[.int .i64 0,.string ⟨#[]⟩,.int .i64 0] 164 (0,0))):=ah aeN;clear hW c0 c1 hq;obtain⟨y0,y1,y2⟩:=CP Cu.o;have f0:W1.frozen? ⟨w.heap.size,0,none⟩=false:=bC Cu.o;have f1:W1.frozen? ⟨w.heap.size,1,none⟩=false:=bC Cu.o;have f2:W1.frozen? ⟨w.heap.size,2,none⟩=false:=bC Cu.o;go_wp2_with fail;have hr:=HR.o;subst hr;exact bodyPost_ret (v:=wR []) (by simp[results,Tryz.results110,go_sem,y0,y1,y2,wR,nextK,bU,fP,tx]) rfl ⟨rfl,pU (pU (pU HB1.o _ _ (aH _)) _ _ (aH _)) _ _ (aH _)⟩
 ·have hq:decide ((R.ts.length:Int)<=(pos:Int))=false:=by rw[decide_eq_false_iff_not];omega
  obtain⟨t,r,HR⟩: ∃t r,aj (rest=t::r):=by
   cases hrs:rest with
   |nil=>rw[hrs]at HD;exact absurd (List.drop_eq_nil_iff.1 HD.o) hlt2
   |cons t r=>exact⟨t,r,ah rfl⟩
  have SG:aj (∀w',Below w.heap.size w w'->∃b off,R.ao=some ⟨b,off,none⟩∧b<R.B0∧w'.cell? ⟨b,off+pos*3,none⟩=some (.int .i64 (t.kind:Int))∧w'.cell? ⟨b,off+pos*3+1,none⟩=some (.string (tx t.text))∧w'.cell? ⟨b,off+pos*3+2,none⟩=some (.int .i64 (t.line:Int))):=ah (λw' hb=>by have:=(HI.o.below hb).tok.drop pos;rw[aV]at this;exact aT7 (HD.o.trans HR.o) this);obtain⟨bb,off,hao,hbb,-⟩:=SG.o w (ak _ _);have xJ:=ah hao;rw[hao]at c0;clear hao;go_enter Tryz.func110,Tryz.ntmps110;go_upto_region 1 with fail;go_quiet (fail);generalize hW:World.drewN (World.alloc w _) _=W1;have HB1:aj (Below w.heap.size w W1):=ah aeO;have Cu:aj (W1.heap[w.heap.size]? =some (.cells #[.int .i64 0,.string ⟨#[]⟩,.int .i64 0] 164 (0,0))):=ah aeN;have d0:W1.cell? ⟨R.br,0,none⟩=some (.slice (some ⟨bb,off,none⟩) R.ts.length R.cap):=(HB1.o.cell hlt).trans c0;have d1:W1.cell? ⟨R.br,1,none⟩=some (.int .i64 (pos:Int)):=(HB1.o.cell hlt).trans c1;obtain⟨b',off',hao,-,e0,e1,e2⟩:=SG.o W1 HB1.o;rw[xJ.o]at hao;injection hao with hao;injection hao with h1 h2;subst h1;subst h2;clear hW c0 c1 hq SG;obtain⟨y0,y1,y2⟩:=CP Cu.o;have f0:W1.frozen? ⟨w.heap.size,0,none⟩=false:=bC Cu.o;have f1:W1.frozen? ⟨w.heap.size,1,none⟩=false:=bC Cu.o;have f2:W1.frozen? ⟨w.heap.size,2,none⟩=false:=bC Cu.o;have hb0:(0:Int)<=(pos:Int):=ahe
  have hb1:(pos:Int)<(R.ts.length:Int):=ahe
  go_upto_region 3 with fail;go_still_tail 10,ahd;change wpList _ _ _ _ _ W1.drew;have HB2:aj (Below w.heap.size w W1.drew):=ah (below_drewN HB1.o 1);have hr:=HR.o;go_wp2_with fail;subst hr;exact bodyPost_ret (v:=wR (t::r)) (by simp[results,Tryz.results110,go_sem,y0,y1,y2,wR,nextK,bU,fP]) rfl ⟨rfl,pU (pU (pU HB2.o _ _ (aH _)) _ _ (aH _)) _ _ (aH _)⟩
theorem aq3 (x:ByteArray) {l:List UInt8} (hx:x.data.toList=l) (rest:bL):
 at' l rest=(((((nextK rest:Nat):Int)==3)||(((nextK rest:Nat):Int)==4))&&((tx (bU rest)).toList==x.toList)):=by
 have h3:(((nextK rest:Nat):Int)==3)=(nextK rest==3):=abl
 have h4:(((nextK rest:Nat):Int)==4)=(nextK rest==4):=abl
 rw[h3,h4,Lib.toList_data,Lib.toList_data,hx];rfl
theorem KH (R:Rp) (rest:bL) (w:World) (x:ByteArray) {l:List UInt8} (hx:x.data.toList=l) (hI:eP w R rest):
 Calls Tryz.prog 113 #[.pointer (some ⟨R.br,0,none⟩),.string x] w λe w'=>e= .returned (.bool (at' l rest))∧Below w.heap.size w w':=by
 have HE:=ah (aq3 x hx rest);have HN:=ah (qU R rest w hI);unfold wR at HN;generalize at' l rest=res at *;generalize ((nextK rest:Nat):Int)=k at *;generalize ((fP rest:Nat):Int)=n at *;generalize tx (bU rest)=s at *;clear hI hx;go_enter Tryz.func113,Tryz.ntmps113;go_wp2_with fail;refine HN.o.mono ?_;rintro e w1 ⟨rfl,hb⟩;have HB:=ah hb;clear hb HN;go_wp2_with fail
 all_goals go_ret
 all_goals exact⟨congrArg (λb=>Ending.returned (.bool b)) (by rw[HE.o];simp[*]),HB.o.alloc HB.o.size _⟩
theorem cell_far {w:World} {a:Addr} {v:Value} {g j:Nat} {u:Value} (h:a.block≠g) (hc:w.cell? ⟨g,j,none⟩=some u):(w.setCell a v).cell? ⟨g,j,none⟩=some u:=
 (World.cell?_of_block (a:=⟨g,j,none⟩) (dB w a v rfl h)).trans hc
theorem jB {b:Option Nat} {w w':World} (h:Below w.heap.size w w'):w.grownBy w' b:=⟨h.os,h.tape,h.output,h.size,λk hk _=>h.block k hk⟩
theorem eP.nt {w:World} {R:Rp} {t:Tk.Tok} {r:bL} {pos:Nat} (h:eP w R (t::r)) (hd:R.ts.drop pos=t::r) (hb:w.heap[R.br]? =some (.cells #[.slice R.ao R.ts.length R.cap,.int .i64 (pos:Int)] 140 (0,0))):
 eP (w.setCell ⟨R.br,1,none⟩ (.int .i64 ((pos:Int)+1))) R r∧w.grownBy (w.setCell ⟨R.br,1,none⟩ (.int .i64 ((pos:Int)+1))) (some R.br):=
 ⟨h.next hd hb,cB w ⟨R.br,1,none⟩ _⟩
theorem eP.open {w:World} {R:Rp} {rest:bL} (h:eP w R rest): ∃pos:Nat,(pos<=R.ts.length∧pos<=4096)∧w.cell? ⟨R.br,0,none⟩=some (.slice R.ao R.ts.length R.cap)∧w.cell? ⟨R.br,1,none⟩=some (.int .i64 (pos:Int))∧w.frozen? ⟨R.br,1,none⟩=false∧
 aj (∀t r,rest=t::r->eP (w.setCell ⟨R.br,1,none⟩ (.int .i64 ((pos:Int)+1))) R r∧w.grownBy (w.setCell ⟨R.br,1,none⟩ (.int .i64 ((pos:Int)+1))) (some R.br)):=by
 obtain⟨pos,h1,h2,h3⟩:=h.blk;have:=h.ok.2;refine⟨pos,⟨h1,ahe⟩,aQ h3 rfl,aQ h3 rfl,bC h3,ah (λt r e=> ?_)⟩;subst e;exact h.nt h2 h3
theorem pQ (R:Rp) (rest:bL) (w:World) (x:ByteArray) {l:List UInt8} (hx:x.data.toList=l) (h:at' l rest=false) (hI:eP w R rest):
 Calls Tryz.prog 153 #[.pointer (some ⟨R.br,0,none⟩),.string x] w λe w'=>e= .returned (.bool false)∧Below w.heap.size w w':=by
 have HN:=ah (KH R rest w x hx hI);rw[h]at HN;clear hI hx h;go_enter Tryz.func153,Tryz.ntmps153;go_wp2_with fail;refine HN.o.mono ?_;rintro e w1 ⟨rfl,hb⟩;have HB:=ah hb;clear hb HN;go_wp2_with fail;go_ret;exact⟨rfl,HB.o⟩
theorem kK (R:Rp) (rest:bL) (w:World) (x:ByteArray) {l:List UInt8} (hx:x.data.toList=l) (h:at' l rest=true) (hI:eP w R rest):
 Calls Tryz.prog 153 #[.pointer (some ⟨R.br,0,none⟩),.string x] w λe w'=>e= .returned (.bool true)∧eP w' R rest.tail∧w.grownBy w' (some R.br):=by
 have HN:=ah (KH R rest w x hx hI);rw[h]at HN;obtain⟨t,r,hr⟩:=WM h;have HR:=ah hr;have HI:=ah hI;clear hI hx h hr;go_enter Tryz.func153,Tryz.ntmps153;go_wp2_with fail;refine HN.o.mono ?_;rintro e w1 ⟨rfl,hb⟩;obtain⟨pos,hp,c0,c1,f1,HX⟩:=(HI.o.below hb).open;have HB:=ah hb;clear hb HN;go_wp2_with fail;go_ret;obtain⟨q1,q2⟩:=HX.o t r HR.o;exact⟨rfl,agV,iQ (jB HB.o) q2⟩
theorem NV (n:Nat) (rest:bL):(nextK rest==n)=(((nextK rest:Nat):Int)==(n:Int)):=by
 rw[Bool.eq_iff_iff,beq_iff_eq,beq_iff_eq];omega
theorem uP (R:Rp) (rest:bL) (w:World) (h:isName rest=true) (hI:eP w R rest):
 Calls Tryz.prog 150 #[.pointer (some ⟨R.br,0,none⟩)] w λe w'=>e= .returned (.tuple #[.string (tx (bU rest)),.bool true])∧eP w' R rest.tail∧w.grownBy w' (some R.br):=by
 have HN:=ah (qU R rest w hI);obtain⟨t,r,hr⟩: ∃t r,rest=t::r:=by
  cases rest with
  |nil=>exact absurd h (by simp[isName,nextK])
  |cons t r=>exact⟨t,r,rfl⟩
 have HR:=ah hr;have HI:=ah hI;have hk:nextK rest=1:=by simpa[isName]using h
 unfold wR at HN;rw[hk]at HN;have HK:=ah hk;have hlt:=hI.lt;clear hI h hr hk;go_enter Tryz.func150,Tryz.ntmps150;go_wp2_with fail;refine HN.o.mono ?_;rintro e w1 ⟨rfl,hb⟩;have HB:=ah hb;clear hb HN;go_upto_region 2 with fail;generalize hW:World.alloc w1 _=W;obtain⟨g,hg,-,-,HC,-⟩:=nI hW;have HB1:aj (Below w.heap.size w W):=ah (by rw[<- hW];exact HB.o.alloc HB.o.size _);have HG:aj (g≠R.br):=ah (by have:=HB.o.size;omega);rw[hg];obtain⟨y0,y1⟩:=nT HC.o;obtain⟨pos,hp,c0,c1,f1,HX⟩:=(HI.o.below HB1.o).open;have z1:(W.setCell ⟨R.br,1,none⟩ (.int .i64 ((pos:Int)+1))).cell? ⟨g,1,none⟩=some (.string (tx (bU rest))):=cell_far (λe=>HG.o e.symm) y1;clear hW hg HB;go_wp2_with fail
 go_ret2
 obtain⟨q1,q2⟩:=HX.o t r HR.o;exact⟨rfl,agV,iQ (jB HB1.o) q2⟩
theorem op_spec (lv:Int) (rest:bL):opAt lv rest=if(((nextK rest:Nat):Int)==4)=true∧((wE (bU rest)).2==lv)=true then(wE (bU rest)).1 else 0:=by
 have h4:(((nextK rest:Nat):Int)==4)=(nextK rest==4):=abl
 rw[h4];unfold opAt;simp only[aP]
theorem QV (R:Rp) (rest:bL) (w:World) (lv:Int) (hI:eP w R rest):
 Calls Tryz.prog 205 #[.pointer (some ⟨R.br,0,none⟩),.int .i64 lv] w λe w'=>e= .returned (.int .i64 (opAt lv rest))∧Below w.heap.size w w':=by
 have HE:=ah (op_spec lv rest);have HN:=ah (qU R rest w hI);have HB0:aj (∀w,Calls Tryz.prog 208 #[.string (tx (bU rest))] w λe w'=>e= .returned (.tuple #[.int .i64 (wE (bU rest)).1,.int .i64 (wE (bU rest)).2])∧w=w'):=ah (Gl (tx (bU rest)) rfl);unfold wR at HN;generalize opAt lv rest=res at *;generalize ((nextK rest:Nat):Int)=k at *;generalize ((fP rest:Nat):Int)=n at *;generalize tx (bU rest)=s at *;generalize (wE (bU rest)).1=a at *;generalize (wE (bU rest)).2=b at *;clear hI;go_enter Tryz.func205,Tryz.ntmps205;go_wp2_with fail;refine HN.o.mono ?_;rintro e w1 ⟨rfl,hb⟩;have HB:=ah hb;clear hb HN;cases h4:(k==4)
 ·go_wp2_with fail;go_ret;exact⟨Ou (by rw[HE.o,if_neg (by rw[h4];rintro⟨h,-⟩;cases h)]),HB.o.alloc HB.o.size _⟩
 ·cases hl:(b==lv)
  all_goals go_wp2_with (with_reducible refine(HB0.o _).mono ?_;rintro e w2 ⟨rfl,rfl⟩);go_ret
  ·exact⟨Ou (by rw[HE.o,if_neg (by rw[hl];rintro⟨-,h⟩;cases h)]),HB.o.alloc HB.o.size _⟩
  ·exact⟨Ou (by rw[HE.o,if_pos ⟨h4,hl⟩]),HB.o.alloc HB.o.size _⟩
theorem eP.pos {w:World} {R:Rp} {rest:bL} (h:eP w R rest): ∃pos:Nat,pos<=R.ts.length∧R.ts.drop pos=rest∧w.cell? ⟨R.br,0,none⟩=some (.slice R.ao R.ts.length R.cap)∧w.cell? ⟨R.br,1,none⟩=some (.int .i64 (pos:Int)):=by
 obtain⟨pos,h1,h2,h3⟩:=h.blk;exact⟨pos,h1,h2,aQ h3 rfl,aQ h3 rfl⟩
end Go.Proofs.YtldapdcphphodaaGreatDoor
end
section
namespace Go.Proofs.YtldapdcphphodaaGreatDoor
open Go.RowKit
open Md Pz
theorem RH {w w':World} {T:TypeId} (h:w'=w∨∃t,w'=Lib.bytesWorld w T t):Below w.heap.size w w':=by
 rcases h with rfl|⟨t,rfl⟩
 ·exact ak _ _
 ·exact Lib.bytesWorld_below _ _ _
theorem Yd (R:Rp) (rest:bL) (w:World) (h:isNum rest=false) (hI:eP w R rest):
 Calls Tryz.prog 162 #[.pointer (some ⟨R.br,0,none⟩)] w λe w'=>e= .returned (.tuple #[.int .i64 0,.bool false])∧Below w.heap.size w w':=by
 have HN:=ah (qU R rest w hI);have h1:(((nextK rest:Nat):Int)==2)=false:=(NV 2 rest).symm.trans h;unfold wR at HN;generalize ((nextK rest:Nat):Int)=k at *;clear hI h;go_enter Tryz.func162,Tryz.ntmps162;go_wp2_with fail;refine HN.o.mono ?_;rintro e w1 ⟨rfl,hb⟩;have HB:=ah hb;clear hb HN;go_wp2_with fail
 go_ret2
 exact⟨rfl,HB.o.alloc HB.o.size _⟩
theorem U9 (R:Rp) (rest:bL) (w:World) (h:isNum rest=true) (hI:eP w R rest):
 Calls Tryz.prog 162 #[.pointer (some ⟨R.br,0,none⟩)] w λe w'=>e= .returned (.tuple #[.int .i64 ((Tk.val (bU rest):Nat):Int),.bool true])∧eP w' R rest.tail∧w.grownBy w' (some R.br):=by
 have HN:=ah (qU R rest w hI);obtain⟨t,r,hr⟩: ∃t r,rest=t::r:=by
  cases rest with
  |nil=>exact absurd h (by simp[isNum,nextK])
  |cons t r=>exact⟨t,r,rfl⟩
 have HR:=ah hr;have HI:=ah hI;have hk:nextK rest=2:=by simpa[isNum]using h
 have hts:=YO hI.ts h;have hsz:(tx (bU rest)).size<=9223372036854775806:=by have:=(hI.tsl t (by rw[hr];simp)).2.2.2;rw[hr];show t.text.toArray.size<=_;simp;omega
 have HP:aj (∀w,Calls Tryz.prog 172 #[.string (tx (bU rest)),.int .i64 10,.int .i64 64] w λe w'=>e= .returned (.tuple #[.int .i64 ((Tk.val (bU rest):Nat):Int),.nilIface])∧(w'=w∨∃t,w'=Lib.bytesWorld w 5 t)):=ah (λw=>Tryz.strconv_ParseInt_10_at64_ok (tx (bU rest)) hsz _ (by rw[MK];exact Yn hts.1.1 hts.1.2 hts.2) w);unfold wR at HN;rw[hk]at HN;have hlt:=hI.lt;clear hI h hr hk hts;generalize ((Tk.val (bU rest):Nat):Int)=n at *;go_enter Tryz.func162,Tryz.ntmps162;go_wp2_with fail;refine HN.o.mono ?_;rintro e w1 ⟨rfl,hb⟩;have HB:=ah hb;clear hb HN;go_wp2_with fail;refine(HP.o _).mono ?_;rintro e w2 ⟨rfl,hb⟩;have HB2:aj (Below w.heap.size w w2):=ah ((HB.o.alloc HB.o.size _).trans ((RH hb).mono (by have:=HB.o.size;simp;omega)));obtain⟨pos,hp,c0,c1,f1,HX⟩:=(HI.o.below HB2.o).open;clear hb HP;go_wp2_with fail
 go_ret2
 obtain⟨q1,q2⟩:=HX.o t r HR.o;exact⟨rfl,agV,iQ (jB HB2.o) q2⟩
end Go.Proofs.YtldapdcphphodaaGreatDoor
end
section
namespace Go.Proofs.YtldapdcphphodaaGreatDoor
open Go.RowKit
open Md Pz
def IQ (x:E):Prop:=ru x.op x.n x.nm x.kids
def EV (B:Nat) (x:E) (v:Value) (w:World):Prop:= ∃ao cap,v=exV x.op x.n x.nm x.kids ao cap∧IQ x∧gB B w (λw2=>x.kids.At w2 w2.heap.size ao 0)
theorem EV.next {B:Nat} {x:E} {v:Value} {w w':World} (h:EV B x v w) (ha:jS B w w'):EV B x v w':=by
 obtain⟨ao,cap,h1,h2,h3⟩:=h;exact⟨ao,cap,h1,h2,h3.next ha⟩
theorem EV.mono {B B':Nat} {x:E} {v:Value} {w:World} (h:EV B' x v w) (hB:B<=B'):EV B x v w:=by
 obtain⟨ao,cap,h1,h2,h3⟩:=h;exact⟨ao,cap,h1,h2,h3.mono hB⟩
def zE:Value:= .agg #[.int .i64 0,.int .i64 0,.string ⟨#[]⟩,.slice none 0 0]
def vJ (R:Rp) (w:World) (r:oO E) (e:Ending) (w':World):Prop:=
 match r with
 | .ok x rest=> ∃v,e= .returned (.tuple #[v,.bool true])∧EV w.heap.size x v w'∧eP w' R rest∧w.grownBy w' (some R.br)
 | .no rest=>e= .returned (.tuple #[zE,.bool false])∧eP w' R rest∧w.grownBy w' (some R.br)
def Af (w:World) (b:Nat) (v0 v1 v2 v3:Value):World:=(((w.setCell ⟨b,0,none⟩ v0).setCell ⟨b,1,none⟩ v1).setCell ⟨b,2,none⟩ v2).setCell ⟨b,3,none⟩ v3
theorem C8 {br:Nat} {w w':World} (h:w.grownBy w' (some br)) (a:Addr) (v:Value) (hb:w.heap.size<=a.block):w.grownBy (w'.setCell a v) (some br):=
 ⟨h.os,h.tape,h.output,abp,λk hk hn=>(dB w' a v rfl ahe).trans (h.block k hk hn)⟩
theorem zC {br:Nat} {w w':World} (h:w.grownBy w' (some br)) (o:Obj):w.grownBy (w'.alloc o) (some br):=iQ h (jB (aA _ _))
theorem uT {w:World} {R:Rp} {rest:bL} (h:eP w R rest) (a:Addr) (v:Value) (h0:R.B0<=a.block) (h1:a.block≠R.br):eP (w.setCell a v) R rest:=by
 obtain⟨pos,k1,k2,k3⟩:=h.blk;exact⟨⟨pos,k1,k2,(dB w a v rfl h1).trans k3⟩,h.tok.below (cZ (cB w a v) h0 (aR R.b0 (bM h.lt))),h.ok,h.tl⟩
theorem zF {w:World} {R:Rp} {rest:bL} (h:eP w R rest) (o:Obj):eP (w.alloc o) R rest:=h.below (aA _ _)
structure Wk (R:Rp) (w W:World) (rest:bL):Prop where
 rd:eP W R rest
 gr:w.grownBy W (some R.br)
 lt:R.br<w.heap.size
theorem Wk.start {R:Rp} {w:World} {rest:bL} (h:eP w R rest):Wk R w w rest:=⟨h,Bj _,h.lt⟩
section
variable {R:Rp} {w W W':World} {rest rest':bL}
theorem Wk.set (h:Wk R w W rest) (a:Addr) (v:Value) (hb:w.heap.size<=a.block):Wk R w (W.setCell a v) rest:=
 ⟨uT h.rd a v (by have:=R.b0;have:=h.lt;omega) agj,C8 h.gr a v hb,h.lt⟩
theorem Wk.alloc (h:Wk R w W rest) (o:Obj):Wk R w (W.alloc o) rest:=⟨zF h.rd o,zC h.gr o,h.lt⟩
theorem Wk.below (h:Wk R w W rest) (hb:Below W.heap.size W W'):Wk R w W' rest:=⟨h.rd.below hb,iQ h.gr (jB hb),h.lt⟩
theorem Wk.then (h:Wk R w W rest) (h1:eP W' R rest') (h2:W.grownBy W' (some R.br)):Wk R w W' rest':=⟨h1,iQ h.gr h2,h.lt⟩
theorem Wk.Af (h:Wk R w W rest) (b:Nat) (v0 v1 v2 v3:Value) (hb:w.heap.size<=b):Wk R w (Af W b v0 v1 v2 v3) rest:=
 (((h.set ⟨b,0,none⟩ v0 hb).set ⟨b,1,none⟩ v1 hb).set ⟨b,2,none⟩ v2 hb).set ⟨b,3,none⟩ v3 hb
theorem Wk.kept (h:Wk R w W rest) (h2:W.grownBy W' (some R.br)) {k:Nat} (hk:w.heap.size<=k) (hl:k<W.heap.size):W'.heap[k]? =W.heap[k]?:=h2.block k hl afV
end
theorem R5 (w:World) (b:Nat) (v0 v1 v2 v3:Value):jS (b+1) w (Af w b v0 v1 v2 v3):=by
 have x1:jS (b+1) w _:=gW w ⟨b,0,none⟩ v0 (Nat.lt_succ_self _);have x2:=x1.trans (gW _ ⟨b,1,none⟩ v1 (Nat.lt_succ_self _));have x3:=x2.trans (gW _ ⟨b,2,none⟩ v2 (Nat.lt_succ_self _));exact x3.trans (gW _ ⟨b,3,none⟩ v3 (Nat.lt_succ_self _))
theorem Yx (w:World) (b:Nat) (v0 v1 v2 v3:Value):(Af w b v0 v1 v2 v3).heap.size=w.heap.size:=by simp[Af,World.setCell]
theorem zT {br B:Nat} {w w':World} (h:w.grownBy w' (some br)) (hB:br<B):jS B w w':=⟨h.size,λk h1 h2=>h.block k h2 ahh⟩
end Go.Proofs.YtldapdcphphodaaGreatDoor
end
section
namespace Go.Proofs.YtldapdcphphodaaGreatDoor
open Go.RowKit
open Md Pz
theorem zI {w:World} {b:Nat} {t:TypeId} (h:w.heap[b]? =some (.cells #[.int .i64 0,.int .i64 0,.string ⟨#[]⟩,.slice none 0 0] t (0,0))):
 (w.cell? ⟨b,0,none⟩=some (.int .i64 0)∧w.cell? ⟨b,1,none⟩=some (.int .i64 0)∧w.cell? ⟨b,2,none⟩=some (.string ⟨#[]⟩)∧w.cell? ⟨b,3,none⟩=some (.slice none 0 0))∧w.frozen? ⟨b,0,none⟩=false∧w.frozen? ⟨b,1,none⟩=false∧w.frozen? ⟨b,2,none⟩=false∧w.frozen? ⟨b,3,none⟩=false:=
 ⟨⟨aQ h rfl,aQ h rfl,aQ h rfl,aQ h rfl⟩,bC h,bC h,bC h,bC h⟩
theorem Rj {B g:Nat} {w w1:World} {Q:World->Prop} (h:gB B w Q) (ha:jS B w w1) (hg:w.heap.size<=g):nP B (some g) w1 Q:=λw' h'=>
 h w' ⟨aR ha.1 h'.1,λk h1 h2=>(h'.2 k h1 (λe=>by injection e with e;omega) (aJ h2 ha.1)).trans (ha.2 k h1 h2)⟩
theorem D8:dD 0:=afM
theorem KO {R:Rp} {w w2:World} {r:bL} {x:E} {ao:Option Addr} {cap:Nat} {a b c d:Value} (h:Wk R w w2 r) (hE:IQ x∧gB (w.heap.size+1) w2 (λw2=>x.kids.At w2 w2.heap.size ao 0)):
 vJ R w (.ok x r) (.returned (.tuple #[exV x.op x.n x.nm x.kids ao cap,.bool true])) (Af w2 w.heap.size a b c d):=by
 have hk:=h.Af w.heap.size a b c d (aH _);exact⟨_,rfl,⟨ao,cap,rfl,hE.1,(hE.2.next (R5 w2 w.heap.size a b c d)).mono (eG _)⟩,hk.rd,hk.gr⟩
theorem ad6 {R:Rp} {w w2:World} {r:bL} {op n:Int} {nm:ByteArray} {a b c d:Value} (h:Wk R w w2 r) (h1:dD op) (h2:dD n) (h3:nm.size<=maxLen):
 vJ R w (.ok ⟨op,n,nm,.nil⟩ r) (.returned (.tuple #[exV op n nm .nil none 0,.bool true])) (Af w2 w.heap.size a b c d):=by
 have hk:=h.Af w.heap.size a b c d (aH _);exact⟨_,rfl,⟨none,0,rfl,⟨h1,h2,h3,bF _⟩,λ_ _=>trivial⟩,hk.rd,hk.gr⟩
theorem aM9 {R:Rp} {w w2:World} {r:bL} {x:E} {ao:Option Addr} {cap:Nat} {nm:ByteArray} {t:TypeId} (hn:nm.size<=maxLen) (h:Wk R w w2 r) (hlt:w.heap.size<w2.heap.size) (hE:IQ x∧gB (w.heap.size+1) w2 (λw2=>x.kids.At w2 w2.heap.size ao 0)):
 vJ R w (.ok (TR nm x) r) (.returned (.tuple #[exV 3 0 nm (.cons x.op x.n x.nm x.kids .nil) (some ⟨w2.heap.size,0,none⟩) 1,.bool true]))
  ((Af w2 w.heap.size (.int .i64 3) (.int .i64 0) (.string nm) (.slice (some ⟨w2.heap.size,0,none⟩) 1 1)).alloc (.cells #[.int .i64 x.op,.int .i64 x.n,.string x.nm,.slice ao x.kids.len cap] t)):=by
 have hk:=h.Af w.heap.size (.int .i64 3) (.int .i64 0) (.string nm) (.slice (some ⟨w2.heap.size,0,none⟩) 1 1) (aH _);have ha:=R5 w2 w.heap.size (.int .i64 3) (.int .i64 0) (.string nm) (.slice (some ⟨w2.heap.size,0,none⟩) 1 1);have hs:=Yx w2 w.heap.size (.int .i64 3) (.int .i64 0) (.string nm) (.slice (some ⟨w2.heap.size,0,none⟩) 1 1);generalize Af w2 w.heap.size _ _ _ _=W at *;refine⟨_,rfl,⟨_,1,rfl,⟨(by unfold dD;decide:dD 3),D8,hn,by simp[TR,bY.len,maxLen]⟩,?_⟩,(hk.alloc _).rd,(hk.alloc _).gr⟩;rw[<- hs];exact(F6 (heap_alloc_new _ _) ahe hE.1 ((hE.2.next ha).next (dO (aA _ _)))).mono (eG _)
theorem xC {l:List UInt8} (h:Tk.iZ l=true):(tx l).size<=maxLen:=by
 unfold Tk.iZ at h;simp only[aP,decide_eq_true_eq]at h;have:(tx l).size=l.length:=by simp[tx,ByteArray.size]
 unfold maxLen;omega
theorem Xh {w:World} {g:Nat} {x:E} {ao:Option Addr} {cap:Nat} {t:TypeId} (h:w.heap[g]? =some (.cells (Tq x.op x.n x.nm x.kids ao cap).toArray t (0,0))):
 (w.cell? ⟨g,0,none⟩=some (.int .i64 x.op)∧w.cell? ⟨g,1,none⟩=some (.int .i64 x.n)∧w.cell? ⟨g,2,none⟩=some (.string x.nm)∧w.cell? ⟨g,3,none⟩=some (.slice ao x.kids.len cap))∧w.frozen? ⟨g,0,none⟩=false∧w.frozen? ⟨g,1,none⟩=false∧w.frozen? ⟨g,2,none⟩=false∧w.frozen? ⟨g,3,none⟩=false:=
 ⟨⟨aQ h rfl,aQ h rfl,aQ h rfl,aQ h rfl⟩,bC h,bC h,bC h,bC h⟩
def Pn (r:bL):Prop:= ∀lv:Int,opAt lv r=0
inductive Ez:bL->E->bL->Prop
 |nm {ts:bL} :isName ts=true->at' [91] ts.tail=false->Pn ts.tail->Ez ts ⟨2,0,tx (bU ts),.nil⟩ ts.tail
 |ix {ts r:bL} {x:E} :isName ts=true->at' [91] ts.tail=true->Ez ts.tail.tail x r->at' [93] r=true->Pn r.tail->Ez ts (TR (tx (bU ts)) x) r.tail
theorem Ez.name {ts r:bL} {x:E} (h:Ez ts x r):isName ts=true:=by cases h <;> assumption
theorem Ez.noop {ts r:bL} {x:E} (h:Ez ts x r):Pn r:=by cases h <;> assumption
theorem an8 {ts:bL} (h:isName ts=true) (y:List UInt8):at' y ts=false:=by
 unfold isName at h;unfold at';rw[eq_of_beq h];rfl
theorem Yb {ts:bL} (h:isName ts=true):isNum ts=false:=by
 unfold isName at h;unfold isNum;rw[eq_of_beq h];rfl
theorem got {R:Rp} {w W w2:World} {ts r:bL} {x:E} {e:Ending} {a:Array Value} {t:TypeId} (hk:Wk R w W ts) (hz:W.heap[w.heap.size]? =some (.cells a t (0,0))) (h:vJ R W (.ok x r) e w2):
 ∃ao cap,e= .returned (.tuple #[exV x.op x.n x.nm x.kids ao cap,.bool true])∧aj (Wk R w w2 r∧w2.heap[w.heap.size]? =some (.cells a t (0,0))∧(IQ x∧gB (w.heap.size+1) w2 (λw2=>x.kids.At w2 w2.heap.size ao 0))):=by
 obtain⟨v,rfl,hv,h2,h3⟩:=h;have hl:=(aU hz);obtain⟨ao,cap,rfl,hok,hst⟩:=hv.mono hl;exact⟨ao,cap,rfl,ah ⟨hk.then h2 h3,(hk.kept h3 (aH _) hl).trans hz,hok,hst⟩⟩
set_option maxHeartbeats 1000000
section
variable (R:Rp) (ts r:bL) (x:E)
theorem aT8 (he:isName ts=true) (HX:aj (∀w,eP w R ts->Calls Tryz.prog 207 #[.pointer (some ⟨R.br,0,none⟩)] w (vJ R w (.ok x r)))) (w:World) (hI:eP w R ts):
 Calls Tryz.prog 204 #[.pointer (some ⟨R.br,0,none⟩)] w (vJ R w (.ok x r)):=by
 have HI:=ah hI;clear hI;go_enter Tryz.func204,Tryz.ntmps204;go_upto_region 1 with fail;generalize hW:World.alloc w _=W;have HK:aj (Wk R w W ts):=ah acZ;have HZ:aj (W.heap[w.heap.size]? =some (.cells #[.int .i64 0,.int .i64 0,.string ⟨#[]⟩,.slice none 0 0] 99 (0,0))):=ah acR;clear hW;go_wp2_with fail;refine(pQ R _ _ ⟨#[45]⟩ rfl (an8 he _) HK.o.rd).mono ?_;rintro e w0 ⟨rfl,h2⟩;have uy:=ah (HK.o.below h2);have HZ0:=gV h2 HZ;clear h2 HK HZ;have HK:=uy;have HZ:=HZ0;clear uy HZ0;go_wp2_with fail;refine(pQ R _ _ ⟨#[33]⟩ rfl (an8 he _) HK.o.rd).mono ?_;rintro e w0 ⟨rfl,h2⟩;have uy:=ah (HK.o.below h2);have HZ0:=gV h2 HZ;clear h2 HK HZ;have HK:=uy;have HZ:=HZ0;clear uy HZ0;go_wp2_with fail;refine(HX.o _ HK.o.rd).mono ?_;intro e w2 h';obtain⟨ao,cap,rfl,HG⟩:=got HK.o HZ.o h';clear h' HK HZ;obtain⟨⟨y0,y1,y2,y3⟩,f0,f1,f2,f3⟩:=zI HG.o.2.1;have hlt2:w.heap.size<w2.heap.size:=(aU HG.o.2.1);unfold exV;go_wp2_with fail;exact bodyPost_ret (v:= .tuple #[exV x.op x.n x.nm x.kids ao cap,.bool true]) (by simp[results,Tryz.results204,go_sem,exV,y0,y1,y2,y3,hlt2]) rfl (KO HG.o.1 HG.o.2.2)
theorem aq4 (HX:aj (∀w,eP w R ts->Calls Tryz.prog 204 #[.pointer (some ⟨R.br,0,none⟩)] w (vJ R w (.ok x r)))) (w:World) (hI:eP w R ts):
 Calls Tryz.prog 195 #[.pointer (some ⟨R.br,0,none⟩),.int .i64 6] w (vJ R w (.ok x r)):=by
 have HI:=ah hI;clear hI;go_enter Tryz.func195,Tryz.ntmps195;go_upto_region 1 with fail;generalize hW:World.alloc w _=W;have HK:aj (Wk R w W ts):=ah acZ;have HZ:aj (W.heap[w.heap.size]? =some (.cells #[.int .i64 0,.int .i64 0,.string ⟨#[]⟩,.slice none 0 0] 99 (0,0))):=ah acR;clear hW;go_wp2_with fail;refine(HX.o _ HK.o.rd).mono ?_;intro e w2 h';obtain⟨ao,cap,rfl,HG⟩:=got HK.o HZ.o h';clear h' HK HZ;obtain⟨⟨y0,y1,y2,y3⟩,f0,f1,f2,f3⟩:=zI HG.o.2.1;have hlt2:w.heap.size<w2.heap.size:=(aU HG.o.2.1);unfold exV;go_wp2_with fail;exact bodyPost_ret (v:= .tuple #[exV x.op x.n x.nm x.kids ao cap,.bool true]) (by simp[results,Tryz.results195,go_sem,exV,y0,y1,y2,y3,hlt2]) rfl (KO HG.o.1 HG.o.2.2)
theorem aF5 (hn:Pn r) (lv:Nat) (hlv:lv<=5) (HX:aj (∀w,eP w R ts->Calls Tryz.prog 195 #[.pointer (some ⟨R.br,0,none⟩),.int .i64 ((lv:Int)+1)] w (vJ R w (.ok x r)))) (w:World) (hI:eP w R ts):
 Calls Tryz.prog 195 #[.pointer (some ⟨R.br,0,none⟩),.int .i64 (lv:Int)] w (vJ R w (.ok x r)):=by
 have hq:decide ((5:Int)<(lv:Int))=false:=adE
 have bE5:(0:Int)<=(lv:Int):=ahe
 have bE6:(lv:Int)<=6:=ahe
 have HI:=ah hI;clear hI;go_enter Tryz.func195,Tryz.ntmps195;go_upto_region 1 with fail;generalize hW:World.alloc w _=W;have HK:aj (Wk R w W ts):=ah acZ;have HZ:aj (W.heap[w.heap.size]? =some (.cells #[.int .i64 0,.int .i64 0,.string ⟨#[]⟩,.slice none 0 0] 99 (0,0))):=ah acR;clear hW;go_wp2_with fail;refine(HX.o _ HK.o.rd).mono ?_;have nE:=HK;have HZ1:=HZ;clear HK HZ;rintro e w2 ⟨v,rfl,hv,h2,h3⟩;have lI:=ah (nE.o.then h2 h3);have HZ2:=ah ((nE.o.kept h3 (aH _) (aU HZ1.o)).trans HZ1.o);have vW:=ah (hv.mono (aU HZ1.o));clear h2 h3 nE HZ1 hv;obtain⟨ao,cap,rfl,hok,hst⟩:=vW.o;have HE:=ah (aB hok hst);clear hok hst vW;unfold exV;go_upto_region 4 with fail;generalize hW:World.alloc w2 _=W2;obtain⟨g,hg,-,-,HB3,-⟩:=nI hW;have nY:aj (Wk R w W2 r):=ah aeV;have HZ3:aj (W2.heap[w.heap.size]? =some (.cells #[.int .i64 0,.int .i64 0,.string ⟨#[]⟩,.slice none 0 0] 99 (0,0))):=ah abz;have pO:aj (IQ x∧gB (w.heap.size+1) W2 (λw2=>x.kids.At w2 w2.heap.size ao 0)):=ah ⟨HE.o.1,acK⟩;have HG:aj (w.heap.size<g):=ah adU;have HEX:aj (nP (w.heap.size+1) (some g) W2 (λw2=>x.kids.At w2 w2.heap.size ao 0)):=ah abA;rw[hg];clear hW hg lI HZ2 HE;go_wp2_with fail;go_loopw [8] (λ_ wr=>wr=W2) (λ_ _=>0)
 case atStart=>rfl
 case round=>subst hrel;have HOA:aj (Calls Tryz.prog 205 #[.pointer (some ⟨R.br,0,none⟩),.int .i64 (lv:Int)] wr λe w'=>e= .returned (.int .i64 0)∧Below wr.heap.size wr w'):=ah (by have:=QV R r wr (lv:Int) nY.o.rd;rw[hn]at this;exact this);go_wp2_with fail;refine HOA.o.mono ?_;rintro e w3 ⟨rfl,h2⟩;have Kj:=ah (nY.o.below h2);have Al:aj (IQ x∧gB (w.heap.size+1) w3 (λw2=>x.kids.At w2 w2.heap.size ao 0)):=ah ⟨pO.o.1,pO.o.2.next (dO h2)⟩;obtain⟨⟨y0,y1,y2,y3⟩,f0,f1,f2,f3⟩:=zI ((h2.block _ (aU HZ3.o)).trans HZ3.o);obtain⟨⟨z0,z1,z2,z3⟩,d0,d1,d2,d3⟩:=Xh ((h2.block _ (aU HB3.o)).trans HB3.o);clear h2 nY HZ3 HB3 pO HOA HEX;go_wp2_with fail;exact bodyPost_ret (v:= .tuple #[exV x.op x.n x.nm x.kids ao cap,.bool true]) (by simp[results,Tryz.results195,go_sem,exV,y0,y1,y2,y3]) rfl (KO Kj.o Al.o)
theorem aR5 (HX:aj (∀w,eP w R ts->Calls Tryz.prog 195 #[.pointer (some ⟨R.br,0,none⟩),.int .i64 1] w (vJ R w (.ok x r)))) (w:World) (hI:eP w R ts):
 Calls Tryz.prog 180 #[.pointer (some ⟨R.br,0,none⟩)] w (vJ R w (.ok x r)):=by
 have HI:=ah hI;clear hI;go_enter Tryz.func180,Tryz.ntmps180;go_upto_region 1 with fail;generalize hW:World.alloc w _=W;have HK:aj (Wk R w W ts):=ah acZ;have HZ:aj (W.heap[w.heap.size]? =some (.cells #[.int .i64 0,.int .i64 0,.string ⟨#[]⟩,.slice none 0 0] 99 (0,0))):=ah acR;clear hW;go_wp2_with fail;refine(HX.o _ HK.o.rd).mono ?_;intro e w2 h';obtain⟨ao,cap,rfl,HG⟩:=got HK.o HZ.o h';clear h' HK HZ;obtain⟨⟨y0,y1,y2,y3⟩,f0,f1,f2,f3⟩:=zI HG.o.2.1;have hlt2:w.heap.size<w2.heap.size:=(aU HG.o.2.1);unfold exV;go_wp2_with fail;exact bodyPost_ret (v:= .tuple #[exV x.op x.n x.nm x.kids ao cap,.bool true]) (by simp[results,Tryz.results180,go_sem,exV,y0,y1,y2,y3,hlt2]) rfl (KO HG.o.1 HG.o.2.2)
end
theorem Tt (R:Rp) {ts r:bL} {x:E} (h:Ez ts x r) (hp: ∀w,eP w R ts->Calls Tryz.prog 207 #[.pointer (some ⟨R.br,0,none⟩)] w (vJ R w (.ok x r))) (w:World) (hI:eP w R ts):
 Calls Tryz.prog 180 #[.pointer (some ⟨R.br,0,none⟩)] w (vJ R w (.ok x r)):=by
 have b (n:Nat) (hn:n<=5):=aF5 R ts r x h.noop n hn;exact aR5 R ts r x (ah (b 1 ahf (ah (b 2 ahf (ah (b 3 ahf (ah (b 4 ahf (ah (b 5 ahf (ah (aq4 R ts r x (ah (aT8 R ts r x h.name (ah hp))))))))))))))) w hI
theorem aT0 (R:Rp): ∀ {ts r:bL} {x:E},Ez ts x r->∀w,eP w R ts->Calls Tryz.prog 207 #[.pointer (some ⟨R.br,0,none⟩)] w (vJ R w (.ok x r)):=by
 intro ts r x h
 induction h with
 |nm h1 h2=>rename_i ts _;intro w hI;have HI:=ah hI;have wW:aj ((tx (bU ts)).size<=maxLen):=ah (xC (xG hI.ts h1));clear hI;go_enter Tryz.func207,Tryz.ntmps207;go_upto_region 1 with fail;generalize hW:World.alloc w _=W;have HK:aj (Wk R w W ts):=ah acZ;have HZ:aj (W.heap[w.heap.size]? =some (.cells #[.int .i64 0,.int .i64 0,.string ⟨#[]⟩,.slice none 0 0] 99 (0,0))):=ah acR;clear hW;go_wp2_with fail;refine(Yd R _ _ (Yb h1) HK.o.rd).mono ?_;rintro e w0 ⟨rfl,h2⟩;have uy:=ah (HK.o.below h2);have HZ0:=gV h2 HZ;clear h2 HK HZ;have HK:=uy;have HZ:=HZ0;clear uy HZ0;go_wp2_with fail;refine(uP R _ _ h1 HK.o.rd).mono ?_;rintro e w0 ⟨rfl,h2,h3⟩;have uy:=ah (HK.o.then h2 h3);have HZ0:=ah ((HK.o.kept h3 (aH _) (aU HZ.o)).trans HZ.o);clear h2 h3 HK HZ;have HK:=uy;have HZ:=HZ0;clear uy HZ0;go_wp2_with fail;refine(pQ R _ _ ⟨#[91]⟩ rfl h2 HK.o.rd).mono ?_;rintro e w0 ⟨rfl,h2⟩;have uy:=ah (HK.o.below h2);have HZ0:=gV h2 HZ;clear h2 HK HZ;have HK:=uy;have HZ:=HZ0;clear uy HZ0;obtain⟨⟨y0,y1,y2,y3⟩,f0,f1,f2,f3⟩:=zI HZ.o;go_wp2_with fail;exact bodyPost_ret (v:= .tuple #[exV 2 0 (tx (bU ts)) .nil none 0,.bool true]) (by simp[results,Tryz.results207,go_sem,y0,y1,y2,y3,exV,bY.len]) rfl (ad6 HK.o afo D8 wW.o)
 |ix h1 h2 hx h4 hn ih=>rename_i ts r x;intro w hI;have HI:=ah hI;have HX:=ah (Tt R hx ih);have wW:aj ((tx (bU ts)).size<=maxLen):=ah (xC (xG hI.ts h1));obtain⟨nm,FR⟩: ∃nm,aj (tx (bU ts)=nm):=⟨_,ah rfl⟩;rw[FR.o]at wW⊢;clear hI ih hx hn;go_enter Tryz.func207,Tryz.ntmps207;go_upto_region 1 with fail;generalize hW:World.alloc w _=W;have HK:aj (Wk R w W ts):=ah acZ;have HZ:aj (W.heap[w.heap.size]? =some (.cells #[.int .i64 0,.int .i64 0,.string ⟨#[]⟩,.slice none 0 0] 99 (0,0))):=ah acR;clear hW;go_wp2_with fail;refine(Yd R _ _ (Yb h1) HK.o.rd).mono ?_;rintro e w0 ⟨rfl,h2⟩;have uy:=ah (HK.o.below h2);have HZ0:=gV h2 HZ;clear h2 HK HZ;have HK:=uy;have HZ:=HZ0;clear uy HZ0;go_wp2_with fail;refine(uP R _ _ h1 HK.o.rd).mono ?_;rw[FR.o];rintro e w0 ⟨rfl,h2,h3⟩;have uy:=ah (HK.o.then h2 h3);have HZ0:=ah ((HK.o.kept h3 (aH _) (aU HZ.o)).trans HZ.o);clear h2 h3 HK HZ;have HK:=uy;have HZ:=HZ0;clear uy HZ0;go_wp2_with fail;refine(kK R _ _ ⟨#[91]⟩ rfl h2 HK.o.rd).mono ?_;rintro e w1 ⟨rfl,h2,h3⟩;have nE:=ah (HK.o.then h2 h3);have HZ1:=ah ((HK.o.kept h3 (aH _) (aU HZ.o)).trans HZ.o);clear h2 h3 HK HZ;go_wp2_with fail;refine(HX.o _ nE.o.rd).mono ?_;rintro e w2 ⟨v,rfl,hv,h2,h3⟩;have lI:=ah (nE.o.then h2 h3);have HZ2:=ah ((nE.o.kept h3 (aH _) (aU HZ1.o)).trans HZ1.o);have vW:=ah (hv.mono (aU HZ1.o));clear h2 h3 nE HZ1 hv;obtain⟨ao,cap,rfl,hok,hst⟩:=vW.o;have HE:=ah (aB hok hst);clear hok hst vW;unfold exV;go_upto_region 9 with fail;generalize hW:World.alloc w2 _=W2;obtain⟨g,hg,-,-,HB3,-⟩:=nI hW;have nY:aj (Wk R w W2 r):=ah aeV;have HZ3:aj (W2.heap[w.heap.size]? =some (.cells #[.int .i64 0,.int .i64 0,.string ⟨#[]⟩,.slice none 0 0] 99 (0,0))):=ah abz;have pO:aj (IQ x∧gB (w.heap.size+1) W2 (λw2=>x.kids.At w2 w2.heap.size ao 0)):=ah ⟨HE.o.1,acK⟩;have HG:aj (w.heap.size<g):=ah adU;have HEX:aj (nP (w.heap.size+1) (some g) W2 (λw2=>x.kids.At w2 w2.heap.size ao 0)):=ah abA;rw[hg];clear hW hg lI HZ2 HE;go_wp2_with fail;refine(kK R _ _ ⟨#[93]⟩ rfl h4 nY.o.rd).mono ?_;rintro e w3 ⟨rfl,h2,h3⟩;have lI:=ah (nY.o.then h2 h3);have HZ2:=ah ((nY.o.kept h3 (aH _) (aU HZ3.o)).trans HZ3.o);have HB2:=ah ((nY.o.kept h3 (bM HG.o) (aU HB3.o)).trans HB3.o);have HE:aj (IQ x∧gB (w.heap.size+1) w3 (λw2=>x.kids.At w2 w2.heap.size ao 0)):=ah ⟨pO.o.1,pO.o.2.next (zT h3 (Nat.lt_succ_of_lt nY.o.lt))⟩;clear h2 h3 nY HZ3 HB3 pO;obtain⟨⟨y0,y1,y2,y3⟩,f0,f1,f2,f3⟩:=zI HZ2.o;obtain⟨z0,z1,z2,z3⟩:=cl4 HB2.o;have hlt2:w.heap.size<w3.heap.size:=(aU HZ2.o);have hlt3:g<w3.heap.size:=(aU HB2.o);go_wp2_with fail;exact bodyPost_ret (v:= .tuple #[exV 3 0 nm (.cons x.op x.n x.nm x.kids .nil) (some ⟨w3.heap.size,0,none⟩) 1,.bool true]) (by simp[results,Tryz.results207,go_sem,exV,bY.len,y0,y1,y2,y3,hlt2]) rfl (aM9 wW.o lI.o hlt2 HE.o)
theorem ar7 (R:Rp) {ts r:bL} {x:E} (h:Ez ts x r) (w:World) (hI:eP w R ts):Calls Tryz.prog 180 #[.pointer (some ⟨R.br,0,none⟩)] w (vJ R w (.ok x r)):=Tt R h (aT0 R h) w hI
end Go.Proofs.YtldapdcphphodaaGreatDoor
end
section
namespace Go.Proofs.YtldapdcphphodaaGreatDoor
open Go.RowKit
open Md Pz
structure Sx where
 h:dM
 b:aY
 e:aY
structure Fr (br bs:Nat) (w w':World):Prop where
 os:w'.os=w.os
 tape:w'.tape=w.tape
 output:w'.output=w.output
 size:w.heap.size<=w'.heap.size
 block: ∀k,k<w.heap.size->k≠br->k≠bs->w'.heap[k]? =w.heap[k]?
section
variable {br bs:Nat} {w w1 w2 w':World}
theorem Fr.refl (br bs:Nat) (w:World):Fr br bs w w:=⟨rfl,rfl,rfl,aH _,λ_ _ _ _=>rfl⟩
theorem Fr.trans (h:Fr br bs w w1) (k:Fr br bs w1 w2):Fr br bs w w2:=
 ⟨k.os.trans h.os,k.tape.trans h.tape,k.output.trans h.output,aR h.size k.size,λj hj h1 h2=>(k.block j (aJ hj h.size) h1 h2).trans (h.block j hj h1 h2)⟩
theorem Fr.ug (h:w.grownBy w' (some br)):Fr br bs w w':=⟨h.os,h.tape,h.output,h.size,λk hk h1 _=>h.block k hk ain⟩
theorem Fr.set (h:Fr br bs w w') (a:Addr) (v:Value) (ha:a.block=bs∨w.heap.size<=a.block):Fr br bs w (w'.setCell a v):=
 ⟨h.os,h.tape,h.output,abp,λk hk h1 h2=>(dB w' a v rfl ahe).trans (h.block k hk h1 h2)⟩
theorem Fr.alloc (h:Fr br bs w w') (o:Obj):Fr br bs w (w'.alloc o):=h.trans (Fr.ug (jB (aA _ _)))
theorem Fr.gr (h:Fr br bs w1 w') (hb:Below w.heap.size w w1) (hs:w.heap.size<=bs):w.grownBy w' (some br):=
 ⟨h.os.trans hb.os,h.tape.trans hb.tape,h.output.trans hb.output,aR hb.size h.size,λk hk h1=>(h.block k (aJ hk hb.size) ahl ahe).trans (hb.block k hk)⟩
end
def zS:Sl:=⟨none,0,none,0,none,0,none,0⟩
structure Pm (R:Rp) (bs B:Nat) (w:World) (x:kE) (rest:bL):Prop where
 rd:eP w R rest
 lt:bs<B∧R.br<B
 ne:bs≠R.br
 b0:R.B0<=bs
 sz:B<=w.heap.size
 blk:w.heap[bs]? =some (.cells (kE.f x).toArray 101 (0,0))
 ok:uE x.h x.b x.e
 st:gB B w (kE.I x)
section
variable {R:Rp} {bs B:Nat} {w W W':World} {x:kE} {rest rest':bL}
theorem Pm.then (h:Pm R bs B W x rest) (h1:eP W' R rest') (h2:W.grownBy W' (some R.br)):Pm R bs B W' x rest':=
 ⟨h1,h.lt,h.ne,h.b0,aR h.sz h2.size,(h2.block _ (aJ h.lt.1 h.sz) (by simp;exact h.ne)).trans h.blk,h.ok,h.st.next (zT h2 h.lt.2)⟩
theorem Pm.below (h:Pm R bs B W x rest) (hb:Below W.heap.size W W'):Pm R bs B W' x rest:=h.then (h.rd.below hb) (jB hb)
theorem Pm.alloc (h:Pm R bs B W x rest) (o:Obj):Pm R bs B (W.alloc o) x rest:=h.below (aA _ _)
theorem Pm.put (h:Pm R bs B W x rest) (j:Nat) (v:Value) {y:kE} (hy:(kE.f x).toArray.setIfInBounds j v=(kE.f y).toArray) (hok:uE y.h y.b y.e) (hst:gB B W (kE.I y)):Pm R bs B (W.setCell ⟨bs,j,none⟩ v) y rest:=
 ⟨uT h.rd _ v h.b0 h.ne,h.lt,h.ne,h.b0,by have:=h.sz;simpa[World.setCell]using this,by rw[dX h.blk,hy],hok,hst.next (gW W ⟨bs,j,none⟩ v h.lt.1)⟩
theorem Pm.nm (h:Pm R bs B W x rest) (s:ByteArray) (hs:s.size<=maxLen):Pm R bs B (W.setCell ⟨bs,2,none⟩ (.string s)) ⟨{x.h with nm:=s},x.b,x.e,x.s⟩ rest:=
 h.put 2 _ rfl ⟨h.ok.1,h.ok.2.1,hs,h.ok.2.2.2⟩ h.st
theorem Pm.arg (h:Pm R bs B W x rest) (s:ByteArray) (hs:s.size<=maxLen):Pm R bs B (W.setCell ⟨bs,3,none⟩ (.string s)) ⟨{x.h with arg:=s},x.b,x.e,x.s⟩ rest:=
 h.put 3 _ rfl ⟨h.ok.1,h.ok.2.1,h.ok.2.2.1,hs,h.ok.2.2.2.2⟩ h.st
theorem Pm.op (h:Pm R bs B W x rest) (n:Int) (hn:dD n):Pm R bs B (W.setCell ⟨bs,0,none⟩ (.int .i64 n)) ⟨{x.h with op:=n},x.b,x.e,x.s⟩ rest:=
 h.put 0 _ rfl ⟨hn,h.ok.2⟩ h.st
theorem Pm.idx (h:Pm R bs B W x rest) (l:bY) (ao:Option Addr) (cap:Nat) (hl:l.len<=maxLen) (hst:gB B W (λw2=>l.At w2 w2.heap.size ao 0)):
 Pm R bs B (W.setCell ⟨bs,4,none⟩ (.slice ao l.len cap)) ⟨{x.h with idx:=l},x.b,x.e,{x.s with fM:=ao,eU:=cap}⟩ rest:=
 h.put 4 _ rfl ⟨h.ok.1,h.ok.2.1,h.ok.2.2.1,h.ok.2.2.2.1,hl,h.ok.2.2.2.2.2⟩ (λw2 h2=>⟨hst w2 h2,(h.st w2 h2).2⟩)
theorem Pm.body (h:Pm R bs B W x rest) (l:aY) (ao:Option Addr) (cap:Nat) (hl:l.len<=maxLen) (hst:gB B W (λw2=>l.At w2 w2.heap.size ao 0)):
 Pm R bs B (W.setCell ⟨bs,9,none⟩ (.slice ao l.len cap)) ⟨x.h,l,x.e,{x.s with dL:=ao,cK:=cap}⟩ rest:=
 h.put 9 _ rfl ⟨h.ok.1,h.ok.2.1,h.ok.2.2.1,h.ok.2.2.2.1,h.ok.2.2.2.2.1,h.ok.2.2.2.2.2.1,hl,h.ok.2.2.2.2.2.2.2⟩ (λw2 h2=>⟨(h.st w2 h2).1,(h.st w2 h2).2.1,hst w2 h2,(h.st w2 h2).2.2.2⟩)
theorem Pm.els (h:Pm R bs B W x rest) (l:aY) (ao:Option Addr) (cap:Nat) (hl:l.len<=maxLen) (hst:gB B W (λw2=>l.At w2 w2.heap.size ao 0)):
 Pm R bs B (W.setCell ⟨bs,10,none⟩ (.slice ao l.len cap)) ⟨x.h,x.b,l,{x.s with gJ:=ao,fH:=cap}⟩ rest:=
 h.put 10 _ rfl ⟨h.ok.1,h.ok.2.1,h.ok.2.2.1,h.ok.2.2.2.1,h.ok.2.2.2.2.1,h.ok.2.2.2.2.2.1,h.ok.2.2.2.2.2.2.1,hl⟩ (λw2 h2=>⟨(h.st w2 h2).1,(h.st w2 h2).2.1,(h.st w2 h2).2.2.1,hst w2 h2⟩)
def Vt (w:World) (b:Nat) (v0 v1 v2 v3:Value):World:=(((w.setCell ⟨b,5,none⟩ v0).setCell ⟨b,6,none⟩ v1).setCell ⟨b,7,none⟩ v2).setCell ⟨b,8,none⟩ v3
theorem Pm.ex (h:Pm R bs B W x rest) (y:E) (ao:Option Addr) (cap:Nat) (hy:IQ y) (hst:gB B W (λw2=>y.kids.At w2 w2.heap.size ao 0)):
 Pm R bs B (Vt W bs (.int .i64 y.op) (.int .i64 y.n) (.string y.nm) (.slice ao y.kids.len cap)) ⟨dM.ex x.h y,x.b,x.e,{x.s with fD:=ao,dS:=cap}⟩ rest:=by
 have ha:jS B W (Vt W bs (.int .i64 y.op) (.int .i64 y.n) (.string y.nm) (.slice ao y.kids.len cap)):=by have x1:jS B W _:=gW W ⟨bs,5,none⟩ (.int .i64 y.op) h.lt.1;have x2:=x1.trans (gW _ ⟨bs,6,none⟩ (.int .i64 y.n) h.lt.1);have x3:=x2.trans (gW _ ⟨bs,7,none⟩ (.string y.nm) h.lt.1);exact x3.trans (gW _ ⟨bs,8,none⟩ (.slice ao y.kids.len cap) h.lt.1)
 refine⟨uT (uT (uT (uT h.rd _ _ h.b0 h.ne) _ _ h.b0 h.ne) _ _ h.b0 h.ne) _ _ h.b0 h.ne,h.lt,h.ne,h.b0,aR h.sz ha.1,?_,⟨h.ok.1,h.ok.2.1,h.ok.2.2.1,h.ok.2.2.2.1,h.ok.2.2.2.2.1,hy,h.ok.2.2.2.2.2.2⟩,?_⟩
 ·unfold Vt;rw[dX (dX (dX (dX h.blk _) _) _) _];rfl
 ·exact λw2 h2=>⟨(h.st w2 (ha.trans h2)).1,hst w2 (ha.trans h2),(h.st w2 (ha.trans h2)).2.2⟩
theorem Pm.cell (h:Pm R bs B W x rest) {j:Nat} {u:Value} (hu:(kE.f x).toArray[j]? =some u):W.cell? ⟨bs,j,none⟩=some u:=aQ h.blk hu
theorem Pm.free (h:Pm R bs B W x rest) (j:Nat):W.frozen? ⟨bs,j,none⟩=false:=bC h.blk
end
def UE (R:Rp) (bs B:Nat) (w:World) (res:oO Sx) (e:Ending) (w':World):Prop:=
 match res with
 | .ok y r=>e= .returned (.bool true)∧(∃s,Pm R bs B w' ⟨y.h,y.b,y.e,s⟩ r)∧Fr R.br bs w w'
 | .no r=>e= .returned (.bool false)∧(∃x,Pm R bs B w' x r)∧Fr R.br bs w w'
def bg2 (R:Rp) (w:World) (res:oO aY) (e:Ending) (w':World):Prop:=
 match res with
 | .ok b r=>(∃ao cap,e= .returned (.tuple #[.slice ao b.len cap,.bool true])∧b.len<=4096∧gB w.heap.size w' (λw2=>b.At w2 w2.heap.size ao 0))∧eP w' R r∧w.grownBy w' (some R.br)
 | .no r=>e= .returned (.tuple #[.slice none 0 0,.bool false])∧eP w' R r∧w.grownBy w' (some R.br)
theorem Rm {R:Rp} {bs B:Nat} {w W:World} {y:Sx} {s:Sl} {r:bL} (h:Pm R bs B W ⟨y.h,y.b,y.e,s⟩ r) (hf:Fr R.br bs w W):UE R bs B w (.ok y r) (.returned (.bool true)) W:=⟨rfl,⟨s,h⟩,hf⟩
theorem aT9:IQ ⟨0,0,⟨#[]⟩,.nil⟩:=⟨D8,D8,bF _,bF _⟩
def Dg:Array Value:= #[.int .i64 0,.int .i64 0,.string ⟨#[]⟩,.string ⟨#[]⟩,.slice none 0 0,.int .i64 0,.int .i64 0,.string ⟨#[]⟩,.slice none 0 0,.slice none 0 0,.slice none 0 0]
theorem Ck {w w':World} {R:Rp} {rest:bL} {b:Nat} (h:eP w R rest) (hg:w.grownBy w' (some b)) (h0:R.B0<=b) (h1:b≠R.br):eP w' R rest:=by
 obtain⟨pos,k1,k2,k3⟩:=h.blk;exact⟨⟨pos,k1,k2,(hg.block _ h.lt ahh).trans k3⟩,h.tok.below (cZ hg h0 (aR R.b0 (bM h.lt))),h.ok,h.tl⟩
theorem wu {br:Nat} {w w':World} (h:w.grownBy w' (some br)) (b o:Nat) (vs:List Value) (hb:w.heap.size<=b):w.grownBy (w'.setCells b o vs) (some br):=
 have k:=dN b vs o w'
 ⟨k.os.trans h.os,k.tape.trans h.tape,k.output.trans h.output,aR h.size k.size,λj hj hn=>(k.block j (aJ hj h.size) ahh).trans (h.block j hj hn)⟩
def aE8 (R:Rp) (w:World) (y:Sx) (r:bL) (e:Ending) (w':World):Prop:= ∃s,e= .returned (.tuple #[jH y.h y.b y.e s,.bool true])∧(uE y.h y.b y.e∧gB w.heap.size w' (kE.I ⟨y.h,y.b,y.e,s⟩))∧eP w' R r∧w.grownBy w' (some R.br)
theorem YE {R:Rp} {bs B:Nat} {w W:World} {y:Sx} {s:Sl} {r:bL} (hP:Pm R bs B W ⟨y.h,y.b,y.e,s⟩ r) (hg:w.grownBy W (some R.br)) (hl:R.br<w.heap.size) (hB:w.heap.size<B):
 aE8 R w y r (.returned (.tuple #[jH y.h y.b y.e s,.bool true])) (W.setCells w.heap.size 0 (kE.f ⟨y.h,y.b,y.e,s⟩)):=
 ⟨s,rfl,⟨hP.ok,(hP.st.next ⟨(dN w.heap.size _ 0 W).size,λk h1 h2=>(dN w.heap.size _ 0 W).block k h2 ahh⟩).mono (bM hB)⟩,Ck hP.rd (dN _ _ _ _) agz ahe,wu hg _ _ _ (aH _)⟩
theorem z11 {w:World} {b:Nat} {t:TypeId} (h:w.heap[b]? =some (.cells Dg t (0,0))):
 (w.cell? ⟨b,0,none⟩=some (.int .i64 0)∧w.cell? ⟨b,1,none⟩=some (.int .i64 0)∧w.cell? ⟨b,2,none⟩=some (.string ⟨#[]⟩)∧w.cell? ⟨b,3,none⟩=some (.string ⟨#[]⟩)∧w.cell? ⟨b,4,none⟩=some (.slice none 0 0)∧w.cell? ⟨b,5,none⟩=some (.int .i64 0)∧w.cell? ⟨b,6,none⟩=some (.int .i64 0)∧w.cell? ⟨b,7,none⟩=some (.string ⟨#[]⟩)∧w.cell? ⟨b,8,none⟩=some (.slice none 0 0)∧w.cell? ⟨b,9,none⟩=some (.slice none 0 0)∧w.cell? ⟨b,10,none⟩=some (.slice none 0 0))∧∀j,w.frozen? ⟨b,j,none⟩=false:=
 ⟨⟨aQ h rfl,aQ h rfl,aQ h rfl,aQ h rfl,aQ h rfl,aQ h rfl,aQ h rfl,aQ h rfl,aQ h rfl,aQ h rfl,aQ h rfl⟩,λ_=>bC h⟩
theorem QX {R:Rp} {bs B:Nat} {W:World} {x:kE} {r:bL} (h:Pm R bs B W x r):
 W.cell? ⟨bs,0,none⟩=some (.int .i64 x.h.op)∧W.cell? ⟨bs,1,none⟩=some (.int .i64 x.h.line)∧W.cell? ⟨bs,2,none⟩=some (.string x.h.nm)∧W.cell? ⟨bs,3,none⟩=some (.string x.h.arg)∧W.cell? ⟨bs,4,none⟩=some (.slice x.s.fM x.h.idx.len x.s.eU)∧W.cell? ⟨bs,5,none⟩=some (.int .i64 x.h.dQ)∧W.cell? ⟨bs,6,none⟩=some (.int .i64 x.h.xn)∧W.cell? ⟨bs,7,none⟩=some (.string x.h.dP)∧W.cell? ⟨bs,8,none⟩=some (.slice x.s.fD x.h.bG.len x.s.dS)∧W.cell? ⟨bs,9,none⟩=some (.slice x.s.dL x.b.len x.s.cK)∧W.cell? ⟨bs,10,none⟩=some (.slice x.s.gJ x.e.len x.s.fH):=
 ⟨h.cell rfl,h.cell rfl,h.cell rfl,h.cell rfl,h.cell rfl,h.cell rfl,h.cell rfl,h.cell rfl,h.cell rfl,h.cell rfl,h.cell rfl⟩
theorem Ri {R:Rp} {w w1:World} {ts:bL} {kv:Value} {sv:Value} (hI:eP w R ts) (hB:Below w.heap.size w w1) (hz:w1.heap[w.heap.size]? =some (.cells Dg 101 (0,0))) (hL:dD ((fP ts:Nat):Int)) (gt:Nat) (hg:w1.heap.size=gt):
 ∀W,((w1.alloc (.cells #[kv,sv,.int .i64 ((fP ts:Nat):Int)] 164)).alloc (.cells #[.int .i64 0,.int .i64 ((fP ts:Nat):Int),.string ⟨#[]⟩,.string ⟨#[]⟩,.slice none 0 0,.int .i64 0,.int .i64 0,.string ⟨#[]⟩,.slice none 0 0,.slice none 0 0,.slice none 0 0] 101))=W->
 Pm R (gt+1) (gt+2) W ⟨hd 0 ((fP ts:Nat):Int),.nil,.nil,zS⟩ ts∧Below w.heap.size w W∧W.heap[w.heap.size]? =some (.cells Dg 101 (0,0))∧W.cell? ⟨gt,0,none⟩=some kv∧W.cell? ⟨gt,1,none⟩=some sv∧w.heap.size<gt:=by
 intro W hW;have h0:=(aU hz);have hb1:Below w.heap.size w (w1.alloc (.cells #[kv,sv,.int .i64 ((fP ts:Nat):Int)] 164)):=hB.alloc hB.size _;have ht:(w1.alloc (.cells #[kv,sv,.int .i64 ((fP ts:Nat):Int)] 164)).heap[gt]? =some (.cells #[kv,sv,.int .i64 ((fP ts:Nat):Int)] 164 (0,0)):=by rw[<- hg];exact heap_alloc_new _ _
 have hz1:(w1.alloc (.cells #[kv,sv,.int .i64 ((fP ts:Nat):Int)] 164)).heap[w.heap.size]? =some (.cells Dg 101 (0,0)):=(heap_alloc_old _ _ h0).trans hz;have hs1:(w1.alloc (.cells #[kv,sv,.int .i64 ((fP ts:Nat):Int)] 164)).heap.size=gt+1:=by simp[hg]
 generalize w1.alloc (.cells #[kv,sv,.int .i64 ((fP ts:Nat):Int)] 164)=W1 at *;have hb2:Below w.heap.size w W:=aev
 have ht2:W.heap[gt]? =some (.cells #[kv,sv,.int .i64 ((fP ts:Nat):Int)] 164 (0,0)):=by rw[<- hW];exact(heap_alloc_old _ _ (aU ht)).trans ht
 refine⟨⟨hI.below hb2,⟨ahe,by have:=hI.lt;omega⟩,by have:=hI.lt;omega,by have:=hI.lt;have:=R.b0;omega,agP,acL,⟨D8,hL,bF _,bF _,bF _,aT9,bF _,bF _⟩,λ_ _=>⟨trivial,trivial,trivial,trivial⟩⟩,hb2,?_,aQ ht2 rfl,aQ ht2 rfl,ahe⟩;rw[<- hW];exact(heap_alloc_old _ _ (aU hz1)).trans hz1
theorem EW {w:World} {R:Rp} {ts:bL} (hI:eP w R ts):dD ((fP ts:Nat):Int):=by
 cases ts with
 |nil=>exact D8
 |cons t r=>have:=(hI.tsl t ahg).1;show dD (t.line:Int);unfold dD;omega
theorem Iq {br bs k:Nat} {w w':World} {o:Obj} (h:Fr br bs w w') (hk:w.heap[k]? =some o) (h1:k≠br) (h2:k≠bs):w'.heap[k]? =some o:=(h.block k (aU hk) h1 h2).trans hk
theorem as1:(Tryz.prog.info? 101).map (λi=>(i.zero,i.size,i.bytes))=some (some (.agg Dg),11,176):=ahd
theorem aM1: ∃i0,Tryz.prog.info? 101=some i0∧i0.zero=some (.agg Dg)∧i0.size=11∧i0.bytes=176:=info_parts as1
theorem ag8 (x:kE): ∀u∈kE.f x,u.oneCell'=true:=by
 intro u hu;simp[kE.f]at hu;rcases hu with rfl|rfl|rfl|rfl|rfl|rfl|rfl|rfl|rfl|rfl|rfl <;> rfl
theorem vX {B:Nat} {w w':World} {g:Option Nat} (h:w.grownBy w' g) (hg: ∀k,g=some k->B<=k) (hB:B<=w.heap.size):Below B w w':=
 ⟨h.os,h.tape,h.output,h.size,λk hk=>h.block k ahe (λe=>by have:=hg k e.symm;omega)⟩
theorem LH {w w':World} {R:Rp} {rest:bL} {g:Option Nat} (h:eP w R rest) (hg:w.grownBy w' g) (h0: ∀k,g=some k->R.B0<=k∧k≠R.br):eP w' R rest:=by
 obtain⟨pos,k1,k2,k3⟩:=h.blk;exact⟨⟨pos,k1,k2,(hg.block _ h.lt (λe=>(h0 _ e.symm).2 rfl)).trans k3⟩,h.tok.below (vX hg (λk hk=>(h0 k hk).1) (aR R.b0 (bM h.lt))),h.ok,h.tl⟩
theorem L9 {br:Nat} {w w1 w2:World} (h:w.grownBy w1 (some br)) (hb:Below w.heap.size w1 w2):w.grownBy w2 (some br):=
 ⟨hb.os.trans h.os,hb.tape.trans h.tape,hb.output.trans h.output,aR h.size hb.size,λk hk hn=>(hb.block k hk).trans (h.block k hk hn)⟩
def E8 (R:Rp) (ts:bL) (y:Sx) (r:bL):Prop:= ∀w,eP w R ts->Calls Tryz.prog 163 #[.pointer (some ⟨R.br,0,none⟩)] w (aE8 R w y r)
def uW (R:Rp) (ts:bL) (b:aY) (r:bL):Prop:= ∀w,eP w R ts->Calls Tryz.prog 154 #[.pointer (some ⟨R.br,0,none⟩)] w (bg2 R w (.ok b r))
set_option maxHeartbeats 4000000
theorem aF3 (R:Rp) (bs B:Nat) (r q:bL) (x:E) (h:dM) (s:Sl) (w:World) (hp:Pm R bs B w ⟨h,.nil,.nil,s⟩ r) (hn:isName r=true) (h1:at' [91] r.tail=false) (h5:at' [61] r.tail=true) (hx:Ez r.tail.tail x q) (h4:at' [59] q=true):
 Calls Tryz.prog 173 #[.pointer (some ⟨R.br,0,none⟩),.pointer (some ⟨bs,0,none⟩)] w (UE R bs B w (.ok ⟨dM.ex {h with nm:=tx (bU r)} x,.nil,.nil⟩ q.tail)):=by
 have HP:=ah hp;have wW:aj ((tx (bU r)).size<=maxLen):=ah (xC (xG hp.rd.ts hn));have HC:=ah (ar7 R hx);clear hp hx;go_enter Tryz.func173,Tryz.ntmps173;go_wp2_with fail;refine(uP R _ _ hn HP.o.rd).mono ?_;rintro e w1 ⟨rfl,h2,h3⟩;have jG:=ah (HP.o.then h2 h3);have HF:=ah (Fr.ug (br:=R.br) (bs:=bs) h3);clear h2 h3 HP;have c2:=jG.o.cell (j:=2) rfl;have f2:=jG.o.free 2;go_upto_region 3 with fail;generalize hW:World.setCell w1 _ _=W;have gX:aj (Pm R bs B W ⟨{h with nm:=tx (bU r)},.nil,.nil,s⟩ r.tail):=ah aeI;have yN:aj (Fr R.br bs w W):=ah adV;clear hW c2 f2 jG HF;go_wp2_with fail;refine(pQ R _ _ ⟨#[91]⟩ rfl h1 gX.o.rd).mono ?_;rintro e w0 ⟨rfl,h2⟩;have IZ:=ah (gX.o.below h2);have HF6:=ah (yN.o.trans (Fr.ug (jB h2)));clear h2 gX yN;go_wp2_with fail;refine(kK R _ _ ⟨#[61]⟩ rfl h5 IZ.o.rd).mono ?_;rintro e w7 ⟨rfl,h2,h3⟩;have Cx:=ah (IZ.o.then h2 h3);have HF7:=ah (HF6.o.trans (Fr.ug h3));clear h2 h3 IZ HF6;go_wp2_with fail;refine(HC.o _ Cx.o.rd).mono ?_;rintro e w3 ⟨v,rfl,hv,h2,h3⟩;have oz:=ah (Cx.o.then h2 h3);have Am:=ah (HF7.o.trans (Fr.ug h3));have HV:=ah (hv.mono Cx.o.sz);clear h2 h3 hv Cx HF7;obtain⟨ao,cap,rfl,hok,hst⟩:=HV.o;have HE:=ah (aB hok hst);clear hok hst HV;have c5:=oz.o.cell (j:=5) rfl;have c6:=oz.o.cell (j:=6) rfl;have c7:=oz.o.cell (j:=7) rfl;have c8:=oz.o.cell (j:=8) rfl;have f5:=oz.o.free 5;have f6:=oz.o.free 6;have f7:=oz.o.free 7;have f8:=oz.o.free 8;unfold exV;go_upto_region 13 with fail;generalize hW:World.setCell (World.setCell (World.setCell (World.setCell w3 _ _) _ _) _ _) _ _=W5;have Kl:aj (Pm R bs B W5 ⟨dM.ex {h with nm:=tx (bU r)} x,.nil,.nil,{s with fD:=ao,dS:=cap}⟩ q):=ah (by rw[<- hW];exact oz.o.ex x ao cap HE.o.1 HE.o.2);have HF5:aj (Fr R.br bs w W5):=ah (by rw[<- hW];exact(((Am.o.set _ _ (.inl rfl)).set _ _ (.inl rfl)).set _ _ (.inl rfl)).set _ _ (.inl rfl));clear hW c5 c6 c7 c8 f5 f6 f7 f8 oz Am HE;go_wp2_with fail;refine(kK R _ _ ⟨#[59]⟩ rfl h4 Kl.o.rd).mono ?_;rintro e w3 ⟨rfl,h2,h3⟩;have oz:=ah (Kl.o.then h2 h3);have Am:=ah (HF5.o.trans (Fr.ug h3));clear h2 h3;go_wp2_with fail;go_ret;exact Rm (y:=⟨dM.ex {h with nm:=tx (bU r)} x,.nil,.nil⟩) oz.o Am.o
theorem af2 (R:Rp) (bs B:Nat) (r q:bL) (b:aY) (gT:aj (uW R r b q)) (h:dM) (s:Sl) (w:World) (hp:Pm R bs B w ⟨h,.nil,.nil,s⟩ r):
 Calls Tryz.prog 184 #[.pointer (some ⟨R.br,0,none⟩),.pointer (some ⟨bs,0,none⟩)] w (UE R bs B w (.ok ⟨h,b,.nil⟩ q)):=by
 have HP:=ah hp;have HC:=ah (gT.o w hp.rd);clear hp gT;go_enter Tryz.func184,Tryz.ntmps184;go_wp2_with fail;refine HC.o.mono ?_;rintro e w1 ⟨⟨ao,cap,rfl,hl,hst⟩,h2,h3⟩;have jG:=ah (HP.o.then h2 h3);have HF:=ah (Fr.ug (bs:=bs) h3);have HL:aj (b.len<=maxLen):=ah (aR hl afA);have HS:=ah (hst.mono HP.o.sz);clear h2 h3 HP hl hst;have c9:=jG.o.cell (j:=9) rfl;have f9:=jG.o.free 9;go_wp2_with fail;go_ret;exact Rm (y:=⟨h,b,.nil⟩) (jG.o.body b ao cap HL.o HS.o) (HF.o.set _ _ (.inl rfl))
theorem Oi (R:Rp) (bs B:Nat) (r q:bL) (b:aY) (hn:isName r=true) (gT:aj (uW R r.tail b q)) (h:dM) (s:Sl) (w:World) (hp:Pm R bs B w ⟨h,.nil,.nil,s⟩ r):
 Calls Tryz.prog 183 #[.pointer (some ⟨R.br,0,none⟩),.pointer (some ⟨bs,0,none⟩)] w (UE R bs B w (.ok ⟨{h with nm:=tx (bU r)},b,.nil⟩ q)):=by
 have HP:=ah hp;have wW:aj ((tx (bU r)).size<=maxLen):=ah (xC (xG HP.o.rd.ts hn));have HC:=ah (af2 R bs B r.tail q b gT {h with nm:=tx (bU r)} s);clear hp gT;go_enter Tryz.func183,Tryz.ntmps183;go_wp2_with fail;refine(uP R _ _ hn HP.o.rd).mono ?_;rintro e w1 ⟨rfl,h2,h3⟩;have jG:=ah (HP.o.then h2 h3);have HF:=ah (Fr.ug (br:=R.br) (bs:=bs) h3);clear h2 h3 HP;have c2:=jG.o.cell (j:=2) rfl;have f2:=jG.o.free 2;go_upto_region 3 with fail;generalize hW:World.setCell w1 _ _=W;have gX:aj (Pm R bs B W ⟨{h with nm:=tx (bU r)},.nil,.nil,s⟩ r.tail):=ah aeI;have yN:aj (Fr R.br bs w W):=ah adV;clear hW c2 f2 jG HF;go_wp2_with fail;refine(HC.o _ gX.o).mono ?_;rintro e w3 ⟨rfl,⟨x,h2⟩,h3⟩;have oz:=ah h2;have Am:=ah (yN.o.trans h3);clear h2 h3;go_wp2_with fail;go_ret;exact Rm (y:=⟨{h with nm:=tx (bU r)},b,.nil⟩) oz.o Am.o
theorem au9 (R:Rp) (ts q:bL) (x:E) (h1:nextK ts=1) (h2:at' [91] ts.tail=false) (h5:at' [61] ts.tail=true) (hx:Ez ts.tail.tail x q) (h4:at' [59] q=true):
 E8 R ts ⟨dM.ex {hd 1 ((fP ts:Nat):Int)with nm:=tx (bU ts)} x,.nil,.nil⟩ q.tail:=by
 intro w hI;have hn:isName ts=true:=by unfold isName;rw[h1];rfl
 have hk:=h1;clear h1;have Sn:=ah (λgt W hP=>aF3 R (gt+1) (gt+2) ts q x (hd 1 ((fP ts:Nat):Int)) zS W hP hn h2 h5 hx h4);obtain⟨Y,HY⟩: ∃Y:Sx,aj ((⟨dM.ex {hd 1 ((fP ts:Nat):Int)with nm:=tx (bU ts)} x,.nil,.nil⟩:Sx)=Y):=⟨_,ah rfl⟩;rw[HY.o]at Sn⊢;clear h2 h5 hx h4 HY hn;have HI:=ah hI;have HL:=ah (EW hI);have hlt:=hI.lt;go_enter Tryz.func163,Tryz.ntmps163;go_upto_region 1 with fail;generalize hW:World.alloc w _=W0;have HB0:aj (Below w.heap.size w W0):=ah aft;have HZ0:aj (W0.heap[w.heap.size]? =some (.cells Dg 101 (0,0))):=ah acR;have HN:=ah (qU R ts W0 (HI.o.below HB0.o));unfold wR at HN;rw[hk]at HN;clear hW hI hk;go_wp2_with fail;refine HN.o.mono ?_;rintro e w1 ⟨rfl,h2⟩;have HB1:=ah (HB0.o.trans (h2.mono HB0.o.size));have HZ1:=gV h2 HZ0;clear h2 HN HB0 HZ0;go_upto_region 3 with fail;obtain⟨gt,hg⟩: ∃g,w1.heap.size=g:=⟨_,rfl⟩;rw[hg];generalize hW:World.alloc (World.alloc w1 _) _=W2;have gX:=ah (Ri HI.o HB1.o HZ1.o HL.o gt hg W2 hW);have e0:=gX.o.2.2.2.1;have e1:=gX.o.2.2.2.2.1;have oM:aj (R.br<w.heap.size∧w.heap.size<gt):=ah ⟨hlt,gX.o.2.2.2.2.2⟩;clear hW hg HB1 HZ1;have f0:=gX.o.1.free 0;have c0:=gX.o.1.cell (j:=0) rfl;go_upto_region 6 with fail;generalize hW:World.setCell W2 _ _=W3;have oz:aj (Pm R (gt+1) (gt+2) W3 ⟨hd 1 ((fP ts:Nat):Int),.nil,.nil,zS⟩ ts):=ah (by rw[<- hW];exact gX.o.1.op 1 afo);have Am:aj (Fr R.br (gt+1) W2 W3):=ah abX;clear hW f0 c0 e0 e1;have HC:=ah (Sn.o gt W3 oz.o);clear Sn;go_wp2_with fail;refine HC.o.mono ?_;rintro e w4 ⟨rfl,⟨s,h2⟩,h3⟩;have qC:=ah h2;have OH:=ah (Am.o.trans h3);clear h2 h3;have BN:=ah (Iq OH.o gX.o.2.2.1 afx afx);obtain⟨⟨y0,y1,y2,y3,y4,y5,y6,y7,y8,y9,uo⟩,fz⟩:=z11 BN.o;have z0:=fz 0;have z1:=fz 1;have z2:=fz 2;have z3:=fz 3;have z4:=fz 4;have z5:=fz 5;have z6:=fz 6;have z7:=fz 7;have z8:=fz 8;have z9:=fz 9;have dw:=fz 10;obtain⟨d0,d1,d2,d3,d4,d5,d6,d7,d8,d9,sw⟩:=QX qC.o;clear fz;go_wp2_with fail;exact bodyPost_ret (v:= .tuple #[jH Y.h Y.b Y.e s,.bool true]) aaF rfl (YE qC.o (OH.o.gr gX.o.2.1 afx) oM.o.1 afx)
theorem ar5 (w:World):(binOp .eql 227 (.func (.func 183) #[] #[]) .nilFunc).run Tryz.prog w= .ok (.bool false) w:=ahd
theorem ag6 (R:Rp) (ts q:bL) (b:aY) (h1:nextK ts=3) (h2:Rh (bU ts)=4) (hn:isName ts.tail=true) (gT:aj (uW R ts.tail.tail b q)):
 E8 R ts ⟨{hd 4 ((fP ts:Nat):Int)with nm:=tx (bU ts.tail)},b,.nil⟩ q:=by
 intro w hI;obtain⟨t0,r0,hr⟩: ∃t r,ts=t::r:=by
  cases ts with
  |nil=>exact absurd h1 (by simp[nextK])
  |cons t r=>exact⟨t,r,rfl⟩
 have Nc:=ah hr;have SF:aj (∀w,Calls Tryz.prog 174 #[.string (tx (bU ts))] w λe w'=>e= .returned (.tuple #[.int .i64 4,.func (.func 183) #[] #[]])∧w=w'):=ah (λw=>by have:=af4 (tx (bU ts)) (l:=bU ts) rfl w;rw[h2]at this;exact this);have hk:=h1;have Sn:=ah (λgt W hP=>Oi R (gt+1) (gt+2) ts.tail q b hn gT (hd 4 ((fP ts:Nat):Int)) zS W hP);obtain⟨Y,HY⟩: ∃Y:Sx,aj ((⟨{hd 4 ((fP ts:Nat):Int)with nm:=tx (bU ts.tail)},b,.nil⟩:Sx)=Y):=⟨_,ah rfl⟩;rw[HY.o]at Sn⊢;clear h1 h2 hr HY hn gT;have hnf:=ar5;have HI:=ah hI;have HL:=ah (EW hI);have hlt:=hI.lt;go_enter Tryz.func163,Tryz.ntmps163;go_upto_region 1 with fail;generalize hW:World.alloc w _=W0;have HB0:aj (Below w.heap.size w W0):=ah aft;have HZ0:aj (W0.heap[w.heap.size]? =some (.cells Dg 101 (0,0))):=ah acR;have HN:=ah (qU R ts W0 (HI.o.below HB0.o));unfold wR at HN;rw[hk]at HN;clear hW hI hk;go_wp2_with fail;refine HN.o.mono ?_;rintro e w1 ⟨rfl,h2⟩;have HB1:=ah (HB0.o.trans (h2.mono HB0.o.size));have HZ1:=gV h2 HZ0;clear h2 HN HB0 HZ0;go_upto_region 3 with fail;obtain⟨gt,hg⟩: ∃g,w1.heap.size=g:=⟨_,rfl⟩;rw[hg];generalize hW:World.alloc (World.alloc w1 _) _=W2;have gX:=ah (Ri HI.o HB1.o HZ1.o HL.o gt hg W2 hW);have e0:=gX.o.2.2.2.1;have e1:=gX.o.2.2.2.2.1;have oM:aj (R.br<w.heap.size∧w.heap.size<gt):=ah ⟨hlt,gX.o.2.2.2.2.2⟩;clear hW hg HB1 HZ1;go_wp2_with fail;refine(SF.o _).mono ?_;rintro e w3 ⟨rfl,rfl⟩;have f0:=gX.o.1.free 0;have c0:=gX.o.1.cell (j:=0) rfl;go_upto_region 13 with fail;generalize hW:World.setCell W2 _ _=W3;have oz:aj (Pm R (gt+1) (gt+2) W3 ⟨hd 4 ((fP ts:Nat):Int),.nil,.nil,zS⟩ ts):=ah (by rw[<- hW];exact gX.o.1.op 4 afo);have yN:aj (Fr R.br (gt+1) W2 W3):=ah abX;obtain⟨pos,hp,q0,q1,fq,HX⟩:=oz.o.rd.open;clear hW f0 c0 e0 e1 hnf SF;go_upto_region 14 with fail;generalize hW:World.setCell W3 _ _=W4;have HQ:aj (eP W4 R ts.tail∧W3.grownBy W4 (some R.br)):=ah adu;have qC:=ah (oz.o.then HQ.o.1 HQ.o.2);have Am:=ah (yN.o.trans (Fr.ug HQ.o.2));clear hW q0 q1 fq HX oz HQ yN;go_wp2_with fail;refine(Sn.o gt _ qC.o).mono ?_;rintro e w4 ⟨rfl,⟨s,h2⟩,h3⟩;have qC:=ah h2;have OH:=ah (Am.o.trans h3);clear h2 h3;have BN:=ah (Iq OH.o gX.o.2.2.1 afx afx);obtain⟨⟨y0,y1,y2,y3,y4,y5,y6,y7,y8,y9,uo⟩,fz⟩:=z11 BN.o;have z0:=fz 0;have z1:=fz 1;have z2:=fz 2;have z3:=fz 3;have z4:=fz 4;have z5:=fz 5;have z6:=fz 6;have z7:=fz 7;have z8:=fz 8;have z9:=fz 9;have dw:=fz 10;obtain⟨d0,d1,d2,d3,d4,d5,d6,d7,d8,d9,sw⟩:=QX qC.o;clear fz;go_wp2_with fail;exact bodyPost_ret (v:= .tuple #[jH Y.h Y.b Y.e s,.bool true]) aaF rfl (YE qC.o (OH.o.gr gX.o.2.1 afx) oM.o.1 afx)
inductive Lz (S:bL->Sx->bL->Prop):bL->List Sx->bL->Prop
 |nil {ts:bL} :at' [125] ts=true->Lz S ts [] ts.tail
 |cons {ts q r:bL} {y:Sx} {m:List Sx} :at' [125] ts=false->S ts y q->Lz S q m r->Lz S ts (y::m) r
def AL:List Sx->aY
 | []=> .nil
 |y::m=> .cons y.h y.b y.e (AL m)
theorem YG: ∀l:List kE,wG l=AL (l.map (λx=>⟨x.h,x.b,x.e⟩))
 | []=>rfl
 |x::r=>by show aY.cons x.h x.b x.e (wG r)=aY.cons x.h x.b x.e (AL _);rw[YG r]
theorem Jw (R:Rp) (S:bL->Sx->bL->Prop) (Fp:aj (∀q y r,S q y r->E8 R q y r)) (ts r:bL) (M:List Sx) (h1:at' [123] ts=true) (hM:Lz S ts.tail M r) (hl:M.length<=4096):uW R ts (AL M) r:=by
 intro w hI;have HI:=ah hI;have Zo:=ah HI.o.lt;have HM:=ah (aB hM hl);clear hI hM hl;obtain⟨i0,hi,hz0,hz1,hz2⟩:=aM1;have fF:=ah (aB hi (aB hz0 (aB hz1 hz2)));clear hi hz0 hz1 hz2;go_enter Tryz.func154,Tryz.ntmps154;go_wp2_with fail;refine(kK R _ _ ⟨#[123]⟩ rfl h1 HI.o).mono ?_;rintro e w1 ⟨rfl,h2,h3⟩;have HK:=ah (aB h2 h3);clear h2 h3 HI h1;go_wp2_with fail;go_loopg [4] M.length (λgk v4 wr=> ∃(l:List kE) (m:List Sx) (rest:bL),gk=m.length∧Lz S rest m r∧l.map (λx=>(⟨x.h,x.b,x.e⟩:Sx))++m=M∧Ia w.heap.size wr v4 l∧(∀x∈l,uE x.h x.b x.e)∧eP wr R rest∧w.grownBy wr (some R.br))
 case atStart=>exact⟨[],M,_,rfl,HM.o.1,rfl,Grow.nil _ _ _ _ _ _,ahg,HK.o.1,HK.o.2⟩
 case round=>
  obtain⟨l,m,rest,rfl,hz,hlm,hg,hok,hr,hgr⟩:=hrel;have Kk:=ah hlm;have HL:aj (l.length+m.length<=4096):=ah (by have:=congrArg List.length hlm;simp only[au,ji]at this;have:=HM.o.2;omega);have HG:=ah hg;have je:=ah hok;have HR:=ah hr;have nR:=ah hgr;clear hlm hg hok hr hgr HK;cases hz with
  | @nil rest h4=>
    go_wp2_with fail;refine(kK R _ _ ⟨#[125]⟩ rfl h4 HR.o).mono ?_;rintro e w2 ⟨rfl,h2,h3⟩;have HG2:=ah (HG.o.next (zT h3 Zo.o));have HR2:=ah h2;have OL:=ah (iQ nR.o h3);clear h2 h3;go_wp2_with fail
    go_ret2
    have hgs:Ia w.heap.size w2 u4 l:=HG2.o;obtain⟨ao,cap,e,hst⟩:=hgs.says je.o;have hq:wG l=AL M:=by rw[YG,<- Kk.o,List.append_nil]
    rw[<- hq];exact⟨⟨ao,cap,ahK,by rw[Db];have:=HL.o;omega,hst⟩,HR2.o,OL.o⟩
  | @cons _ q _ y m h4 hs hzz=>
    have HC:=ah (Fp.o _ _ _ hs);have SL:=ah hzz;clear hs hzz;go_wp2_with fail;refine(pQ R _ _ ⟨#[125]⟩ rfl h4 HR.o).mono ?_;rintro e w2 ⟨rfl,h2⟩;have HG2:=ah (HG.o.next (dO h2));have HR2:=ah (HR.o.below h2);have OL:=ah (iQ nR.o (jB h2));clear h2 HG HR nR;go_wp2_with fail;refine(HC.o _ HR2.o).mono ?_;rintro e w3 ⟨s,rfl,⟨hok,hst⟩,h2,h3⟩;clear HC;have HYX:aj (y=⟨y.h,y.b,y.e⟩):=ah rfl;obtain⟨x,vG⟩: ∃x:kE,aj (x=⟨y.h,y.b,y.e,s⟩):=⟨_,ah rfl⟩;have hok:uE x.h x.b x.e:=by rw[vG.o];exact hok
    have hst:gB w2.heap.size w3 (kE.I x):=by rw[vG.o];exact hst
    rw[show jH y.h y.b y.e s=jH x.h x.b x.e x.s by rw[vG.o]];have Bu:=ah (HG2.o.next (zT h3 Zo.o));have HR3:=ah h2;have OM:=ah (iQ OL.o h3);have BK:=ah hst;have HOX:=ah hok;have sj:aj (w2.heap.size<=w3.heap.size∧w.heap.size<=w2.heap.size):=ah ⟨h3.size,OL.o.size⟩;have oW:=ah HG2.o.lt;clear h2 h3 hst hok HG2 HR2 OL;unfold jH;go_upto_region 6 with fail;generalize hW:World.alloc w3 _=W4;obtain⟨gs,hg,-,-,eF,-⟩:=nI hW;have MZ:aj (Ia w.heap.size W4 u4 l):=ah (by rw[<- hW];exact Bu.o.next (dO (aA _ _)));have HR4:aj (eP W4 R q):=ah (by rw[<- hW];exact zF HR3.o _);have ay7:aj (w.grownBy W4 (some R.br)):=ah (by rw[<- hW];exact zC OM.o _);have qX:aj (gB w2.heap.size W4 (kE.I x)):=ah (by rw[<- hW];exact BK.o.next (dO (aA _ _)));rw[hg];clear hW hg Bu HR3 OM BK;obtain⟨d0,d1,d2,d3,d4,d5,d6,d7,d8,d9,sw⟩:(W4.cell? ⟨gs,0,none⟩=some (.int .i64 x.h.op)∧W4.cell? ⟨gs,1,none⟩=some (.int .i64 x.h.line)∧W4.cell? ⟨gs,2,none⟩=some (.string x.h.nm)∧W4.cell? ⟨gs,3,none⟩=some (.string x.h.arg)∧W4.cell? ⟨gs,4,none⟩=some (.slice x.s.fM x.h.idx.len x.s.eU)∧W4.cell? ⟨gs,5,none⟩=some (.int .i64 x.h.dQ)∧W4.cell? ⟨gs,6,none⟩=some (.int .i64 x.h.xn)∧W4.cell? ⟨gs,7,none⟩=some (.string x.h.dP)∧W4.cell? ⟨gs,8,none⟩=some (.slice x.s.fD x.h.bG.len x.s.dS)∧W4.cell? ⟨gs,9,none⟩=some (.slice x.s.dL x.b.len x.s.cK)∧W4.cell? ⟨gs,10,none⟩=some (.slice x.s.gJ x.e.len x.s.fH)):=⟨aQ eF.o rfl,aQ eF.o rfl,aQ eF.o rfl,aQ eF.o rfl,aQ eF.o rfl,aQ eF.o rfl,aQ eF.o rfl,aQ eF.o rfl,aQ eF.o rfl,aQ eF.o rfl,aQ eF.o rfl⟩;have nD:=ah (MZ.o.next (dO (aA W4 (.cells (kE.f x).toArray 101))));have jd:=ah (gG (heap_alloc_new W4 (.cells (kE.f x).toArray 101)));have Wh:aj (w.heap.size<=W4.heap.size):=ah ay7.o.size;obtain⟨hi,hz0,hz1,hz2⟩:=fF.o;have hbs:w.heap.size<=W4.heap.size+1:=Nat.le_succ_of_le Wh.o;have hkl:l.length+1<=maxLen:=by have:=HL.o;simp only[ay]at this;unfold maxLen;omega
    have Lc:(l.length+1)*176<=140737488355328:=by have:=HL.o;simp only[ay]at this;omega
    go_wp2_with (at_builtin;refine wpList_append_lies _ rfl _ _ 57 rfl w.heap.size 101 i0 _ 11 176 Tryz.underlying57 hi hz0 hz1 hz2 rfl ahf _ _ _ rfl nD.o.own ⟨W4.heap.size,0,none⟩ 1 1 (kE.f x) rfl rfl jd.o (ag8 _) ahf hkl Lc afr _ rfl ?_);clear hi hz0 hz1 hz2 d0 d1 d2 d3 d4 d5 d6 d7 d8 d9 sw;intro g cap w5 hown hgr hmv hlt2;have DU:aj (nP w.heap.size u4.ownBlock (W4.alloc (.cells (kE.f x).toArray 101)) (kE.I x)):=ah (F5 (qX.o.next (dO (aA _ _))) sj.o.2 (λk hk=>(oW.o k hk).2));have vQ:=ah (nD.o.push DU.o rfl hown hgr afP);have jF:aj (Below w.heap.size (W4.alloc (.cells (kE.f x).toArray 101)) w5):=ah (vX hgr (λk hk=>(oW.o k hk).1) afr);have P6:aj (eP w5 R q):=ah (LH (zF HR4.o _) hgr (λk hk=>by have h1:=(oW.o k hk).1;have h2:=Zo.o;have h3:=R.b0;omega));have Ur:aj (w.grownBy w5 (some R.br)):=ah (L9 (zC ay7.o _) jF.o);have bi3:aj (∀y∈l++[x],uE y.h y.b y.e):=ah (λy hy=>by
     rcases List.mem_append.1 hy with hy|hy
     ·exact je.o y hy
     ·rw[List.mem_singleton.1 hy];exact HOX.o)
    clear hown hgr hmv hlt2 hbs hkl Lc DU qX jd nD jF;go_wp2_with fail;go_roundg m.length
    case measure=>simp
    case rel=>exact⟨l++[x],m,q,rfl,SL.o,by rw[<- Kk.o,vG.o];simp,vQ.o,bi3.o,P6.o,Ur.o⟩
end Go.Proofs.YtldapdcphphodaaGreatDoor
end
