/- Plain functions of the parser: what a list of tokens says, and where it stops to fit. No program in sight. And what hangs on it. -/
import Derived.Test.YtdoplekppjkkpaaGreatDoorGMB
import Derived.Test.YtdoplekppjkkpaaGreatDoorShelf
set_option linter.unusedSimpArgs false
set_option linter.unusedVariables false
set_option maxHeartbeats 40000000
set_option maxRecDepth 1000000
section
namespace Go.Proofs.YtdoplekppjkkpaaGreatDoor.Pz
open Go.RowKit Md Tk
abbrev bG:=List Tok
inductive oJ (α:Type) where
 |ok (a:α) (rest:bG)
 |no (rest:bG)
structure E where
 op:Int
 n:Int
 nm:ByteArray
 kids:bT
def tx (l:List UInt8):ByteArray:=⟨l.toArray⟩
def nextK:bG->Nat
 | []=>0
 |t::_=>t.kind
def bM:bG->List UInt8
 | []=>[]
 |t::_=>t.text
def fQ:bG->Nat
 | []=>0
 |t::_=>t.line
def at' (x:List UInt8) (ts:bG):Bool:=(nextK ts==3||nextK ts==4)&&bM ts==x
def isName (ts:bG):Bool:=nextK ts==1
def isNum (ts:bG):Bool:=nextK ts==2
def xQ (x:List UInt8):Int×Int:=
 if x== [124,124]then(18,1)else if x== [38,38]then(17,2)else if x== [61,61]then(11,3)else if x== [33,61]then(12,3)else if x== [60]then(13,3)else if x== [60,61]then(14,3)
 else if x== [62]then(15,3)else if x== [62,61]then(16,3)else if x== [43]then(6,4)else if x== [45]then(7,4)else if x== [42]then(8,5)else if x== [47]then(9,5)else if x== [37]then(10,5)else(0,0)
def opAt (lv:Int) (ts:bG):Int:=if nextK ts==4&&(xQ (bM ts)).2==lv then(xQ (bM ts)).1 else 0
def mk1 (op:Int) (x:E):E:=⟨op,0,⟨#[]⟩,.cons x.op x.n x.nm x.kids .nil⟩
def mk2 (op:Int) (x y:E):E:=⟨op,0,⟨#[]⟩,.cons x.op x.n x.nm x.kids (.cons y.op y.n y.nm y.kids .nil)⟩
def Ul (nm:ByteArray) (x:E):E:=⟨3,0,nm,.cons x.op x.n x.nm x.kids .nil⟩
def oJ.map {α β:Type} (f:α->β):oJ α->oJ β
 | .ok a r=> .ok (f a) r
 | .no r=> .no r
def oJ.close {α:Type} (x:List UInt8):oJ α->oJ α
 | .ok a r=>if at' x r then .ok a r.tail else .no r
 | .no r=> .no r
inductive M where
 |bin (lv:Nat)
 |lp (lv:Nat) (l:E)
 |un
 |pr
def pe:Nat->M->bG->oJ E
 |0,_,ts=> .no ts
 |f+1,.bin lv,ts=>if 5<lv then pe f .un ts else
  match pe f (.bin (lv+1)) ts with
  | .no r=> .no r
  | .ok l r=>pe f (.lp lv l) r
 |f+1,.lp lv l,ts=>if opAt lv ts==0 then .ok l ts else
  match pe f (.bin (lv+1)) ts.tail with
  | .no r=> .no r
  | .ok x r=>if lv=3 then .ok (mk2 (opAt lv ts) l x) r else pe f (.lp lv (mk2 (opAt lv ts) l x)) r
 |f+1,.un,ts=>if at' [45] ts then(pe f .un ts.tail).map (mk1 4)else if at' [33] ts then(pe f .un ts.tail).map (mk1 5)else pe f .pr ts
 |f+1,.pr,ts=>if isNum ts then .ok ⟨1,(val (bM ts):Nat),⟨#[]⟩,.nil⟩ ts.tail
  else if isName ts then
   (if at' [91] ts.tail then((pe f (.bin 1) ts.tail.tail).close [93]).map (λx=>⟨3,0,tx (bM ts),.cons x.op x.n x.nm x.kids .nil⟩)else .ok ⟨2,0,tx (bM ts),.nil⟩ ts.tail)
  else if at' [40] ts then(pe f (.bin 1) ts.tail).close [41]else .no ts
def expr (ts:bG):oJ E:=pe (9*ts.length+9) (.bin 1) ts
def RF (x:List UInt8):Int:=
 if x== [105,102]then 2 else if x== [119,104,105,108,101]then 3 else if x== [108,111,99,107]then 4 else if x== [114,101,97,100]then 5 else if x== [119,114,105,116,101]then 6
 else if x== [116,114,97,110,115,97,99,116,105,111,110]then 7 else if x== [97,116,111,109,105,99]then 8 else if x== [119,97,105,116]then 9 else if x== [110,111,116,105,102,121]then 10
 else if x== [110,111,116,105,102,121,97,108,108]then 11 else if x== [115,112,97,119,110]then 12 else if x== [106,111,105,110]then 13 else if x== [115,101,116]then 14 else if x== [103,101,116]then 15 else 0
def hd (op line:Int):dF:=⟨op,line,⟨#[]⟩,⟨#[]⟩,.nil,0,0,⟨#[]⟩,.nil⟩
def dF.ex (h:dF) (x:E):dF:= {h with dP:=x.op,xn:=x.n,dO:=x.nm,bJ:=x.kids}
def one (h:dF) (b e:aZ):aZ:= .cons h b e .nil
def app:aZ->aZ->aZ
 | .nil,l=>l
 | .cons h b e r,l=> .cons h b e (app r l)
def oJ.bind {α β:Type} (r:oJ α) (f:α->bG->oJ β):oJ β:=
 match r with
 | .ok a r=>f a r
 | .no r=> .no r
def Je (ts:bG):oJ ByteArray:=if isName ts then .ok (tx (bM ts)) ts.tail else .no ts
def need (x:List UInt8) (ts:bG):oJ Unit:=if at' x ts then .ok () ts.tail else .no ts
def asg (h:dF) (ts:bG):oJ aZ:=
 (if at' [91] ts then((expr ts.tail).close [93]).map (λx=> {h with idx:= .cons x.op x.n x.nm x.kids .nil})else .ok h ts).bind λh ts=>
  (need [61] ts).bind λ_ ts=>(((expr ts).map λx=>one (dF.ex h x) .nil .nil).close [59])
def ps:Nat->Bool->bG->oJ aZ
 |0,_,ts=> .no ts
 |f+1,false,ts=>if at' [125] ts then .ok .nil ts.tail else
  match ps f true ts with
  | .no r=> .no r
  | .ok s r=>(ps f false r).map (app s)
 |f+1,true,ts=>
  let blk:=λ(ts:bG)=>if at' [123] ts then ps f false ts.tail else .no ts
  if nextK ts==1 then asg {hd 1 (fQ ts)with nm:=tx (bM ts)} ts.tail
  else if nextK ts==3 then
   let op:=RF (bM ts)
   let h:=hd op (fQ ts)
   if op==0 then .no ts
   else if op==2 then(expr ts.tail).bind λx r=>(blk r).bind λb r=>if at' [101,108,115,101] r then(blk r.tail).map (one (dF.ex h x) b)else .ok (one (dF.ex h x) b .nil) r
   else if op==3 then(expr ts.tail).bind λx r=>(blk r).map λb=>one (dF.ex h x) b .nil
   else if op==7||op==8 then(blk ts.tail).map λb=>one h b .nil
   else(Je ts.tail).bind λs r=>
    if op==4||op==5||op==6 then(blk r).map λb=>one {h with nm:=s} b .nil
    else if op==14 then((expr r).map λx=>one (dF.ex {h with nm:=s} x) .nil .nil).close [59]
    else if op==15 then((Je r).map λa=>one {h with nm:=s,arg:=a} .nil .nil).close [59]
    else(need [59] r).map λ_=>one {h with nm:=s} .nil .nil
  else .no ts
def blk (f:Nat) (ts:bG):oJ aZ:=if at' [123] ts then ps f false ts.tail else .no ts
def qZ (x:List UInt8):Int:=
 if x== [118,97,114]then 1 else if x== [118,111,108,97,116,105,108,101]then 2 else if x== [109,117,116,101,120]then 3 else if x== [114,119,108,111,99,107]then 4 else if x== [99,111,110,100]then 5 else if x== [102,117,116,117,114,101]then 6 else 0
def zK (d:De) (ts:bG):oJ De:=
 if at' [91] ts then(if isNum ts.tail then(if val (bM ts.tail)==0 then .no ts.tail else(need [93] ts.tail.tail).map λ_=> {d with size:=(val (bM ts.tail):Nat)})else .no ts.tail)else .ok d ts
def Ar (d:De) (ts:bG):oJ De:=
 if at' [61] ts then
  (if at' [45] ts.tail then(if isNum ts.tail.tail then .ok {d with init:= -(val (bM ts.tail.tail):Nat)} ts.tail.tail.tail else .no ts.tail.tail)
   else if isNum ts.tail then .ok {d with init:=(val (bM ts.tail):Nat)} ts.tail.tail else .no ts.tail)
 else .ok d ts
def aW8 (ts:bG):oJ De:=
 let k:=qZ (bM ts)
 ((Je ts.tail).bind λs r=>
   let d:De:=⟨k,fQ ts,s,0,0,⟨#[]⟩⟩
   if k==1 then(zK d r).bind Ar
   else if k==2 then Ar d r
   else if k==5 then(Je r).map λo=> {d with on:=o}
   else .ok d r).close [59]
def ar7:Nat->bG->oJ (List ByteArray)
 |0,ts=> .no ts
 |f+1,ts=>(Je ts).bind λs r=>if at' [44] r then(ar7 f r.tail).map (s:: ·)else .ok [s] r
def bB0 (ts:bG):oJ Th:=
 (Je ts.tail).bind λs r=>(need [40] r).bind λ_ r=>
  (if at' [41] r then .ok [] r.tail else(ar7 (r.length+1) r).close [41]).bind λl r=>
   (blk (3*r.length+3) r).map λb=>⟨s,fQ ts,l,b⟩
def isDecl (ts:bG):Bool:=nextK ts==3&& !(qZ (bM ts)==0)
def Xv:Nat->bG->oJ (List De)
 |0,ts=> .ok [] ts
 |f+1,ts=>if isDecl ts then(aW8 ts).bind λd r=>(Xv f r).map (d:: ·)else .ok [] ts
def as2:Nat->bG->oJ (List Th)
 |0,ts=> .ok [] ts
 |f+1,ts=>if at' [116,104,114,101,97,100] ts then(bB0 ts).bind λt r=>(as2 f r).map (t:: ·)else .ok [] ts
def prog (ts:bG):oJ Pr:=(Xv ts.length ts).bind λds r=>(as2 r.length r).map λth=>⟨ds,th⟩
end Go.Proofs.YtdoplekppjkkpaaGreatDoor.Pz
end
section
namespace Go.Proofs.YtdoplekppjkkpaaGreatDoor.Pz
open Go.RowKit Md Tk
theorem Xe {x:List UInt8} {ts:bG} (h:at' x ts=true): ∃t r,ts=t::r:=by
 cases ts with
 |nil=>exact absurd h (by simp[at',nextK])
 |cons t r=>exact⟨t,r,rfl⟩
end Go.Proofs.YtdoplekppjkkpaaGreatDoor.Pz
end
section
namespace Go.Proofs.YtdoplekppjkkpaaGreatDoor.Pz
open Go.RowKit Md Tk
def EO (t:Tok):Prop:=(t.kind=1->jf t.text=true)∧(t.kind=2->(t.text.isEmpty=false∧t.text.all mI=true)∧zF t.text=true)∧(t.kind=3->vP t.text=true)∧t.kind<=4
theorem Li (p:UInt8->Bool): ∀l:List UInt8,(l.takeWhile p).all p=true
 | []=>rfl
 |c::r=>by
  rw[List.takeWhile_cons];by_cases h:p c=true
  ·rw[if_pos h,List.all_cons,h,Li p r];rfl
  ·rw[if_neg h];rfl
end Go.Proofs.YtdoplekppjkkpaaGreatDoor.Pz
end
section
namespace Go.Proofs.YtdoplekppjkkpaaGreatDoor.Pz
open Go.RowKit Md Tk
def H8 (ts:bG):Prop:= ∀t∈ts,EO t
theorem H8.tail {ts:bG} (h:H8 ts):H8 ts.tail:=λt ht=>h t (List.mem_of_mem_tail ht)
theorem yO {ts:bG} (h:H8 ts) (hn:isName ts=true):jf (bM ts)=true:=by
 cases ts with
 |nil=>exact absurd hn (by simp[isName,nextK])
 |cons t r=>exact(h t agJ).1 (by simpa[isName,nextK]using hn)
theorem Z7 {ts:bG} (h:H8 ts) (hn:isNum ts=true):((bM ts).isEmpty=false∧(bM ts).all mI=true)∧zF (bM ts)=true:=by
 cases ts with
 |nil=>exact absurd hn (by simp[isNum,nextK])
 |cons t r=>exact(h t agJ).2.1 (by simpa[isNum,nextK]using hn)
theorem Nh (l:List UInt8):(tx l).data.toList=l:=by simp[tx]
end Go.Proofs.YtdoplekppjkkpaaGreatDoor.Pz
end
section
namespace Go.Proofs.YtdoplekppjkkpaaGreatDoor.Pz
open Go.RowKit Md Tk
end Go.Proofs.YtdoplekppjkkpaaGreatDoor.Pz
end
section
namespace Go.Proofs.YtdoplekppjkkpaaGreatDoor.Pz
open Go.RowKit Md Tk
theorem Yy {ts:bG} (hT:H8 ts) (h:isNum ts=true):(val (bM ts):Int)<=9223372036854775807:=by
 have:=(Z7 hT h).2;unfold zF at this;have:=of_decide_eq_true this;omega
theorem av3 (x:List UInt8):(qZ x==0)=false->1<=qZ x∧qZ x<=6:=by
 intro h;unfold qZ at h⊢;grind (splits:=40)
end Go.Proofs.YtdoplekppjkkpaaGreatDoor.Pz
end
section
namespace Go.Proofs.YtdoplekppjkkpaaGreatDoor.Pz
open Go.RowKit Md Tk
def zL (n:Nat) (c:UInt8):Nat:=10*n+(c.toNat -48)
theorem U4: ∀(l:List UInt8) (a:Nat),a<=l.foldl zL a
 | [],a=>aB a
 |c::r,a=>aJ (by unfold zL;omega) (U4 r (zL a c))
theorem Ui {c:UInt8} (h:mI c=true):48<=c.toNat∧c.toNat<=57:=by
 unfold mI rV at h;rw[aP]at h;have h1:=of_decide_eq_true h.1;have h2:=of_decide_eq_true h.2;omega
theorem as4 {M:Nat} (hM:9223372036854775807<=M): ∀(l:List UInt8) (a:Nat),l.all mI=true->l.foldl zL a<=9223372036854775807->Lib.parseUintM M a l= .ok (l.foldl zL a)
 | [],a,_,_=>rfl
 |c::r,a,h,hv=>by
  rw[List.all_cons,aP]at h;have hd:=Ui h.1;have hv':r.foldl zL (zL a c)<=9223372036854775807:=hv;have hg:=U4 r (zL a c);have ih:=as4 hM r (zL a c) h.2 hv';have hs:zL a c=a*10+(c.toNat -48):=by unfold zL;omega
  unfold Lib.parseUintM;rw[if_pos hd,if_neg agH,if_neg agH,<- hs,ih];rfl
theorem YB {l:List UInt8} (h1:l.isEmpty=false) (h2:l.all mI=true) (h3:zF l=true):Lib.parseIntB 64 l= .ok (val l:Int):=by
 have hv:val l<=9223372036854775807:=of_decide_eq_true h3;cases l with
 |nil=>cases h1
 |cons c r=>
  have hd:=Ui (by rw[List.all_cons,aP]at h2;exact h2.1);have hu:Lib.parseUintB 64 (c::r)= .ok (val (c::r)):=by unfold Lib.parseUintB;rw[if_neg agJ];exact as4 agI (c::r) 0 h2 hv
  unfold Lib.parseIntB;dsimp only;rw[if_neg agH,hu];dsimp only
  rw[if_neg (by rintro⟨-,h⟩;have:(2:Nat) ^ (64 -1)=9223372036854775808:=by decide
                omega),if_neg (by rintro⟨h,-⟩;omega),if_neg agH]
end Go.Proofs.YtdoplekppjkkpaaGreatDoor.Pz
end
section
namespace Go.Proofs.YtdoplekppjkkpaaGreatDoor.Pz
open Go.RowKit Md Tk
def TL (N:Nat) (t:Tok):Prop:=(1<=t.line∧t.line<=N)∧1<=t.kind∧(t.kind=4->sgs.contains t.text=true)∧t.text.length<=N
def X8 (ts:bG):Prop:= ∀t∈ts,TL 4097 t
theorem X8.tail {ts:bG} (h:X8 ts):X8 ts.tail:=λt ht=>h t (List.mem_of_mem_tail ht)
end Go.Proofs.YtdoplekppjkkpaaGreatDoor.Pz
end
section
namespace Go.Proofs.YtdoplekppjkkpaaGreatDoor
open Go.RowKit
open Md Pz
theorem OZ {a b:Int} (h:a=b):Ending.returned (.int .i64 a)= .returned (.int .i64 b):=by rw[h]
theorem I8 (x:ByteArray) {l:List UInt8} (hx:x.data.toList=l) (w:World):
 Calls Tryz.prog 96 #[.string x] w λe w'=>e= .returned (.int .i64 (qZ l))∧w=w':=by
 have hl:x.toList=l:=adx
 go_enter Tryz.func96,Tryz.ntmps96;go_wp2
 all_goals go_ret
 all_goals exact⟨OZ (by unfold qZ;simp only[*];rfl),rfl⟩
theorem aU5 {a b c d:Int} (h:(a,c)=(b,d)):Ending.returned (.tuple #[.int .i64 a,.int .i64 c])= .returned (.tuple #[.int .i64 b,.int .i64 d]):=by
 injection h with h1 h2;rw[h1,h2]
theorem Ht (x:ByteArray) {l:List UInt8} (hx:x.data.toList=l) (w:World):
 Calls Tryz.prog 199 #[.string x] w λe w'=>e= .returned (.tuple #[.int .i64 (xQ l).1,.int .i64 (xQ l).2])∧w=w':=by
 have hl:x.toList=l:=adx
 go_enter Tryz.func199,Tryz.ntmps199;go_wp2
 all_goals go_ret2
 all_goals exact⟨aU5 (by unfold xQ;simp only[*];rfl),rfl⟩
def rdV (op:Int):Value:=
 if op==2 then .func (.func 172) #[] #[]else if op==3 then .func (.func 173) #[] #[]
 else if op==4||op==5||op==6 then .func (.func 174) #[] #[]else if op==7||op==8 then .func (.func 175) #[] #[]
 else if op==14 then .func (.func 177) #[] #[]else if op==15 then .func (.func 178) #[] #[]
 else if op==0 then .nilFunc else .func (.func 176) #[] #[]
theorem aZ4 {a b:Int} {v:Value} (h:a=b) (hv:v=rdV a):Ending.returned (.tuple #[.int .i64 a,v])= .returned (.tuple #[.int .i64 b,rdV b]):=by rw[<- h,hv]
theorem ag6 (x:ByteArray) {l:List UInt8} (hx:x.data.toList=l) (w:World):
 Calls Tryz.prog 162 #[.string x] w λe w'=>e= .returned (.tuple #[.int .i64 (RF l),rdV (RF l)])∧w=w':=by
 have hl:x.toList=l:=adx
 go_enter Tryz.func162,Tryz.ntmps162;go_wp2
 all_goals go_ret2
 all_goals exact⟨aZ4 (by unfold RF;simp only[*];rfl) ahS,rfl⟩
end Go.Proofs.YtdoplekppjkkpaaGreatDoor
end
section
namespace Go.Proofs.YtdoplekppjkkpaaGreatDoor
open Go.RowKit
open Md Pz
def xU (w:World) (B:Nat):bG->Option Addr->Nat->Prop
 | [],_,_=>True
 |t::r,ao,k=>(∃b off,ao=some ⟨b,off,none⟩∧b<B∧w.cell? ⟨b,off+k*3,none⟩=some (.int .i64 (t.kind:Int))∧w.cell? ⟨b,off+k*3+1,none⟩=some (.string (tx t.text))∧w.cell? ⟨b,off+k*3+2,none⟩=some (.int .i64 (t.line:Int)))∧xU w B r ao (k+1)
theorem xU.below {w w':World} {B:Nat} (hb:Below B w w'): ∀ {l:bG} {ao:Option Addr} {k:Nat},xU w B l ao k->xU w' B l ao k
 | [],_,_,_=>trivial
 |_::_,_,_,⟨⟨b,off,e,hB,c0,c1,c2⟩,hr⟩=>⟨⟨b,off,e,hB,(hb.cell hB).trans c0,(hb.cell hB).trans c1,(hb.cell hB).trans c2⟩,xU.below hb hr⟩
theorem xU.drop {w:World} {B:Nat} : ∀ {l:bG} {ao:Option Addr} {k:Nat} (i:Nat),xU w B l ao k->xU w B (l.drop i) ao (k+i)
 |_,_,_,0,h=>h
 | [],_,_,_+1,_=>by simp[xU]
 |_::_,_,k,i+1,⟨_,hr⟩=>by have:=xU.drop i hr;rw[List.drop_succ_cons];rwa [Nat.add_assoc,Nat.add_comm 1 i]at this
structure Rp where
 B0:Nat
 br:Nat
 ao:Option Addr
 cap:Nat
 ts:bG
 b0:B0<=br
structure eP (w:World) (R:Rp) (rest:bG):Prop where
 blk: ∃pos:Nat,pos<=R.ts.length∧R.ts.drop pos=rest∧w.heap[R.br]? =some (.cells #[.slice R.ao R.ts.length R.cap,.int .i64 (pos:Int)] 137 (0,0))
 tok:xU w R.B0 R.ts R.ao 0
 ok:H8 R.ts∧R.ts.length<=4096
 tl:X8 R.ts
theorem eP.lt {w:World} {R:Rp} {rest:bG} (h:eP w R rest):R.br<w.heap.size:=by obtain⟨a,-,-,h⟩:=h.blk;exact(aO h)
theorem eP.ts {w:World} {R:Rp} {rest:bG} (h:eP w R rest):H8 rest:=by
 obtain⟨a,-,rfl,-⟩:=h.blk;exact λt ht=>h.ok.1 t (List.mem_of_mem_drop ht)
theorem eP.tsl {w:World} {R:Rp} {rest:bG} (h:eP w R rest):X8 rest:=by
 obtain⟨a,-,rfl,-⟩:=h.blk;exact λt ht=>h.tl t (List.mem_of_mem_drop ht)
theorem eP.len {w:World} {R:Rp} {rest:bG} (h:eP w R rest):rest.length<=4096:=by
 obtain⟨a,-,rfl,-⟩:=h.blk;have:=h.ok.2;simp;omega
theorem eP.below {w w':World} {R:Rp} {rest:bG} (h:eP w R rest) (hb:Below w.heap.size w w'):eP w' R rest:=by
 obtain⟨a,h1,h2,h3⟩:=h.blk;exact⟨⟨a,h1,h2,(hb.block _ h.lt).trans h3⟩,h.tok.below (hb.mono (aJ R.b0 (bH h.lt))),h.ok,h.tl⟩
theorem eP.next {w:World} {R:Rp} {t:Tk.Tok} {r:bG} {pos:Nat} (h:eP w R (t::r)) (hd:R.ts.drop pos=t::r) (hb:w.heap[R.br]? =some (.cells #[.slice R.ao R.ts.length R.cap,.int .i64 (pos:Int)] 137 (0,0))):eP (w.setCell ⟨R.br,1,none⟩ (.int .i64 ((pos:Int)+1))) R r:=by
 have hlt:pos<R.ts.length:=abX
 refine⟨⟨pos+1,hlt,?_,by rw[dI hb];rfl⟩,h.tok.below (cK (bU _ _ _) R.b0 (aJ R.b0 (bH h.lt))),h.ok,h.tl⟩;rw[<- List.drop_drop,hd];rfl
def yg (ts:bG):Value:= .agg #[.int .i64 (nextK ts:Nat),.string (tx (bM ts)),.int .i64 (fQ ts:Nat)]
theorem Dy (w:World) (cs:Array Value) (t:TypeId) (n:Nat):Below w.heap.size w ((w.alloc (.cells cs t)).drewN n)∧((w.alloc (.cells cs t)).drewN n).heap[w.heap.size]? =some (.cells cs t (0,0)):=
 ⟨below_drewN (ak _ _) n,((below_drewN (au (w.alloc (.cells cs t)).heap.size _) n).block _ agJ).trans (heap_alloc_new w _)⟩
theorem pU {B:Nat} {w w':World} (h:Below B w w') (a:Addr) (v:Value) (hb:B<=a.block):Below B w (w'.setCell a v):=
 ⟨h.os,h.tape,h.output,aaR,λk hk=>(bg w' a v rfl agH).trans (h.block k hk)⟩
theorem ba2 {w:World} {B:Nat} : ∀ {l:bG} {ao:Option Addr} {k:Nat} {t:Tk.Tok} {r:bG},l=t::r->xU w B l ao k->∃b off,ao=some ⟨b,off,none⟩∧b<B∧w.cell? ⟨b,off+k*3,none⟩=some (.int .i64 (t.kind:Int))∧w.cell? ⟨b,off+k*3+1,none⟩=some (.string (tx t.text))∧w.cell? ⟨b,off+k*3+2,none⟩=some (.int .i64 (t.line:Int))
 |_,_,_,_,_,rfl,h=>h.1
theorem rC (R:Rp) (rest:bG) (w:World) (hI:eP w R rest):
 Calls Tryz.prog 95 #[.pointer (some ⟨R.br,0,none⟩)] w λe w'=>e= .returned (yg rest)∧Below w.heap.size w w':=by
 obtain⟨pos,hp,hd,hblk⟩:=hI.blk;have HI:=ah hI;have HD:=ah hd;obtain⟨c0,c1⟩:=rU hblk;have hl:=hI.ok.2;have hlt:=hI.lt;clear hI hd hblk;by_cases hlt2:R.ts.length<=pos
 ·have hq:decide ((R.ts.length:Int)<=(pos:Int))=true:=by rw[decide_eq_true_iff];omega
  have HR:aj (rest=[]):=ah (by rw[<- HD.o];exact List.drop_eq_nil_iff.2 hlt2);go_enter Tryz.func95,Tryz.ntmps95;go_upto_region 1 with fail;go_quiet (fail);generalize hW:World.drewN (World.alloc w _) _=W1;have HB1:aj (Below w.heap.size w W1):=ah aem;have Gy:aj (W1.heap[w.heap.size]? =some (.cells #[.int .i64 0,.string ⟨#[]⟩,.int .i64 0] 158 (0,0))):=ah ael;clear hW c0 c1 hq;obtain⟨y0,y1,y2⟩:=I4 Gy.o;have f0:W1.frozen? ⟨w.heap.size,0,none⟩=false:=bK Gy.o;have f1:W1.frozen? ⟨w.heap.size,1,none⟩=false:=bK Gy.o;have f2:W1.frozen? ⟨w.heap.size,2,none⟩=false:=bK Gy.o;go_wp2_with fail;have hr:=HR.o;subst hr;exact bodyPost_ret (v:=yg []) (by simp[results,Tryz.results95,go_sem,y0,y1,y2,yg,nextK,bM,fQ,tx]) rfl ⟨rfl,pU (pU (pU HB1.o _ _ (aB _)) _ _ (aB _)) _ _ (aB _)⟩
 ·have hq:decide ((R.ts.length:Int)<=(pos:Int))=false:=by rw[decide_eq_false_iff_not];omega
  obtain⟨t,r,HR⟩: ∃t r,aj (rest=t::r):=by
   cases hrs:rest with
   |nil=>rw[hrs]at HD;exact absurd (List.drop_eq_nil_iff.1 HD.o) hlt2
   |cons t r=>exact⟨t,r,ah rfl⟩
  have TB:aj (∀w',Below w.heap.size w w'->∃b off,R.ao=some ⟨b,off,none⟩∧b<R.B0∧w'.cell? ⟨b,off+pos*3,none⟩=some (.int .i64 (t.kind:Int))∧w'.cell? ⟨b,off+pos*3+1,none⟩=some (.string (tx t.text))∧w'.cell? ⟨b,off+pos*3+2,none⟩=some (.int .i64 (t.line:Int))):=ah (λw' hb=>by have:=(HI.o.below hb).tok.drop pos;rw[aU]at this;exact ba2 (HD.o.trans HR.o) this);obtain⟨bb,off,hao,hbb,-⟩:=TB.o w (au _ _);have Av:=ah hao;rw[hao]at c0;clear hao;go_enter Tryz.func95,Tryz.ntmps95;go_upto_region 1 with fail;go_quiet (fail);generalize hW:World.drewN (World.alloc w _) _=W1;have HB1:aj (Below w.heap.size w W1):=ah aem;have Gy:aj (W1.heap[w.heap.size]? =some (.cells #[.int .i64 0,.string ⟨#[]⟩,.int .i64 0] 158 (0,0))):=ah ael;have d0:W1.cell? ⟨R.br,0,none⟩=some (.slice (some ⟨bb,off,none⟩) R.ts.length R.cap):=(HB1.o.cell hlt).trans c0;have d1:W1.cell? ⟨R.br,1,none⟩=some (.int .i64 (pos:Int)):=(HB1.o.cell hlt).trans c1;obtain⟨b',off',hao,-,e0,e1,e2⟩:=TB.o W1 HB1.o;rw[Av.o]at hao;injection hao with hao;injection hao with h1 h2;subst h1;subst h2;clear hW c0 c1 hq TB;obtain⟨y0,y1,y2⟩:=I4 Gy.o;have f0:W1.frozen? ⟨w.heap.size,0,none⟩=false:=bK Gy.o;have f1:W1.frozen? ⟨w.heap.size,1,none⟩=false:=bK Gy.o;have f2:W1.frozen? ⟨w.heap.size,2,none⟩=false:=bK Gy.o;have hb0:(0:Int)<=(pos:Int):=agH
  have hb1:(pos:Int)<(R.ts.length:Int):=agH
  go_upto_region 3 with fail;go_still_tail 10,agG;change wpList _ _ _ _ _ W1.drew;have HB2:aj (Below w.heap.size w W1.drew):=ah (below_drewN HB1.o 1);have hr:=HR.o;go_wp2_with fail;subst hr;exact bodyPost_ret (v:=yg (t::r)) (by simp[results,Tryz.results95,go_sem,y0,y1,y2,yg,nextK,bM,fQ]) rfl ⟨rfl,pU (pU (pU HB2.o _ _ (aB _)) _ _ (aB _)) _ _ (aB _)⟩
theorem au7 (x:ByteArray) {l:List UInt8} (hx:x.data.toList=l) (rest:bG):
 at' l rest=(((((nextK rest:Nat):Int)==3)||(((nextK rest:Nat):Int)==4))&&((tx (bM rest)).toList==x.toList)):=by
 have h3:(((nextK rest:Nat):Int)==3)=(nextK rest==3):=abf
 have h4:(((nextK rest:Nat):Int)==4)=(nextK rest==4):=abf
 rw[h3,h4,Lib.toList_data,Lib.toList_data,hx];rfl
theorem Lm (R:Rp) (rest:bG) (w:World) (x:ByteArray) {l:List UInt8} (hx:x.data.toList=l) (hI:eP w R rest):
 Calls Tryz.prog 98 #[.pointer (some ⟨R.br,0,none⟩),.string x] w λe w'=>e= .returned (.bool (at' l rest))∧Below w.heap.size w w':=by
 have HE:=ah (au7 x hx rest);have HN:=ah (rC R rest w hI);unfold yg at HN;generalize at' l rest=res at *;generalize ((nextK rest:Nat):Int)=k at *;generalize ((fQ rest:Nat):Int)=n at *;generalize tx (bM rest)=s at *;clear hI hx;go_enter Tryz.func98,Tryz.ntmps98;go_wp2_with fail;refine HN.o.mono ?_;rintro e w1 ⟨rfl,hb⟩;have HB:=ah hb;clear hb HN;go_wp2_with fail
 all_goals go_ret
 all_goals exact⟨congrArg (λb=>Ending.returned (.bool b)) (by rw[HE.o];simp[*]),HB.o.alloc HB.o.size _⟩
theorem cell_far {w:World} {a:Addr} {v:Value} {g j:Nat} {u:Value} (h:a.block≠g) (hc:w.cell? ⟨g,j,none⟩=some u):(w.setCell a v).cell? ⟨g,j,none⟩=some u:=
 (World.cell?_of_block (a:=⟨g,j,none⟩) (bg w a v rfl h)).trans hc
theorem jL {b:Option Nat} {w w':World} (h:Below w.heap.size w w'):w.grownBy w' b:=⟨h.os,h.tape,h.output,h.size,λk hk _=>h.block k hk⟩
theorem eP.nt {w:World} {R:Rp} {t:Tk.Tok} {r:bG} {pos:Nat} (h:eP w R (t::r)) (hd:R.ts.drop pos=t::r) (hb:w.heap[R.br]? =some (.cells #[.slice R.ao R.ts.length R.cap,.int .i64 (pos:Int)] 137 (0,0))):
 eP (w.setCell ⟨R.br,1,none⟩ (.int .i64 ((pos:Int)+1))) R r∧w.grownBy (w.setCell ⟨R.br,1,none⟩ (.int .i64 ((pos:Int)+1))) (some R.br):=
 ⟨h.next hd hb,bU w ⟨R.br,1,none⟩ _⟩
theorem eP.open {w:World} {R:Rp} {rest:bG} (h:eP w R rest): ∃pos:Nat,(pos<=R.ts.length∧pos<=4096)∧w.cell? ⟨R.br,0,none⟩=some (.slice R.ao R.ts.length R.cap)∧w.cell? ⟨R.br,1,none⟩=some (.int .i64 (pos:Int))∧w.frozen? ⟨R.br,1,none⟩=false∧
 aj (∀t r,rest=t::r->eP (w.setCell ⟨R.br,1,none⟩ (.int .i64 ((pos:Int)+1))) R r∧w.grownBy (w.setCell ⟨R.br,1,none⟩ (.int .i64 ((pos:Int)+1))) (some R.br)):=by
 obtain⟨pos,h1,h2,h3⟩:=h.blk;have:=h.ok.2;refine⟨pos,⟨h1,agH⟩,aQ h3 rfl,aQ h3 rfl,bK h3,ah (λt r e=> ?_)⟩;subst e;exact h.nt h2 h3
theorem pQ (R:Rp) (rest:bG) (w:World) (x:ByteArray) {l:List UInt8} (hx:x.data.toList=l) (h:at' l rest=false) (hI:eP w R rest):
 Calls Tryz.prog 129 #[.pointer (some ⟨R.br,0,none⟩),.string x] w λe w'=>e= .returned (.bool false)∧Below w.heap.size w w':=by
 have HN:=ah (Lm R rest w x hx hI);rw[h]at HN;clear hI hx h;go_enter Tryz.func129,Tryz.ntmps129;go_wp2_with fail;refine HN.o.mono ?_;rintro e w1 ⟨rfl,hb⟩;have HB:=ah hb;clear hb HN;go_wp2_with fail;go_ret;exact⟨rfl,HB.o⟩
theorem kX (R:Rp) (rest:bG) (w:World) (x:ByteArray) {l:List UInt8} (hx:x.data.toList=l) (h:at' l rest=true) (hI:eP w R rest):
 Calls Tryz.prog 129 #[.pointer (some ⟨R.br,0,none⟩),.string x] w λe w'=>e= .returned (.bool true)∧eP w' R rest.tail∧w.grownBy w' (some R.br):=by
 have HN:=ah (Lm R rest w x hx hI);rw[h]at HN;obtain⟨t,r,hr⟩:=Xe h;have HR:=ah hr;have HI:=ah hI;clear hI hx h hr;go_enter Tryz.func129,Tryz.ntmps129;go_wp2_with fail;refine HN.o.mono ?_;rintro e w1 ⟨rfl,hb⟩;obtain⟨pos,hp,c0,c1,f1,HX⟩:=(HI.o.below hb).open;have HB:=ah hb;clear hb HN;go_wp2_with fail;go_ret;obtain⟨q1,q2⟩:=HX.o t r HR.o;exact⟨rfl,agA,jC (jL HB.o) q2⟩
theorem Ou (n:Nat) (rest:bG):(nextK rest==n)=(((nextK rest:Nat):Int)==(n:Int)):=by
 rw[Bool.eq_iff_iff,beq_iff_eq,beq_iff_eq];omega
theorem vR (R:Rp) (rest:bG) (w:World) (h:isName rest=true) (hI:eP w R rest):
 Calls Tryz.prog 126 #[.pointer (some ⟨R.br,0,none⟩)] w λe w'=>e= .returned (.tuple #[.string (tx (bM rest)),.bool true])∧eP w' R rest.tail∧w.grownBy w' (some R.br):=by
 have HN:=ah (rC R rest w hI);obtain⟨t,r,hr⟩: ∃t r,rest=t::r:=by
  cases rest with
  |nil=>exact absurd h (by simp[isName,nextK])
  |cons t r=>exact⟨t,r,rfl⟩
 have HR:=ah hr;have HI:=ah hI;have hk:nextK rest=1:=by simpa[isName]using h
 unfold yg at HN;rw[hk]at HN;have HK:=ah hk;have hlt:=hI.lt;clear hI h hr hk;go_enter Tryz.func126,Tryz.ntmps126;go_wp2_with fail;refine HN.o.mono ?_;rintro e w1 ⟨rfl,hb⟩;have HB:=ah hb;clear hb HN;go_upto_region 2 with fail;generalize hW:World.alloc w1 _=W;obtain⟨g,hg,-,-,HC,-⟩:=qD hW;have HB1:aj (Below w.heap.size w W):=ah (by rw[<- hW];exact HB.o.alloc HB.o.size _);have HG:aj (g≠R.br):=ah (by have:=HB.o.size;omega);rw[hg];obtain⟨y0,y1⟩:=rU HC.o;obtain⟨pos,hp,c0,c1,f1,HX⟩:=(HI.o.below HB1.o).open;have z1:(W.setCell ⟨R.br,1,none⟩ (.int .i64 ((pos:Int)+1))).cell? ⟨g,1,none⟩=some (.string (tx (bM rest))):=cell_far (λe=>HG.o e.symm) y1;clear hW hg HB;go_wp2_with fail
 go_ret2
 obtain⟨q1,q2⟩:=HX.o t r HR.o;exact⟨rfl,agA,jC (jL HB1.o) q2⟩
theorem op_spec (lv:Int) (rest:bG):opAt lv rest=if(((nextK rest:Nat):Int)==4)=true∧((xQ (bM rest)).2==lv)=true then(xQ (bM rest)).1 else 0:=by
 have h4:(((nextK rest:Nat):Int)==4)=(nextK rest==4):=abf
 rw[h4];unfold opAt;simp only[aP]
theorem Rs (R:Rp) (rest:bG) (w:World) (lv:Int) (hI:eP w R rest):
 Calls Tryz.prog 196 #[.pointer (some ⟨R.br,0,none⟩),.int .i64 lv] w λe w'=>e= .returned (.int .i64 (opAt lv rest))∧Below w.heap.size w w':=by
 have HE:=ah (op_spec lv rest);have HN:=ah (rC R rest w hI);have HB0:aj (∀w,Calls Tryz.prog 199 #[.string (tx (bM rest))] w λe w'=>e= .returned (.tuple #[.int .i64 (xQ (bM rest)).1,.int .i64 (xQ (bM rest)).2])∧w=w'):=ah (Ht (tx (bM rest)) rfl);unfold yg at HN;generalize opAt lv rest=res at *;generalize ((nextK rest:Nat):Int)=k at *;generalize ((fQ rest:Nat):Int)=n at *;generalize tx (bM rest)=s at *;generalize (xQ (bM rest)).1=a at *;generalize (xQ (bM rest)).2=b at *;clear hI;go_enter Tryz.func196,Tryz.ntmps196;go_wp2_with fail;refine HN.o.mono ?_;rintro e w1 ⟨rfl,hb⟩;have HB:=ah hb;clear hb HN;cases h4:(k==4)
 ·go_wp2_with fail;go_ret;exact⟨OZ (by rw[HE.o,if_neg (by rw[h4];rintro⟨h,-⟩;cases h)]),HB.o.alloc HB.o.size _⟩
 ·cases hl:(b==lv)
  all_goals go_wp2_with (with_reducible refine(HB0.o _).mono ?_;rintro e w2 ⟨rfl,rfl⟩);go_ret
  ·exact⟨OZ (by rw[HE.o,if_neg (by rw[hl];rintro⟨-,h⟩;cases h)]),HB.o.alloc HB.o.size _⟩
  ·exact⟨OZ (by rw[HE.o,if_pos ⟨h4,hl⟩]),HB.o.alloc HB.o.size _⟩
theorem eP.pos {w:World} {R:Rp} {rest:bG} (h:eP w R rest): ∃pos:Nat,pos<=R.ts.length∧R.ts.drop pos=rest∧w.cell? ⟨R.br,0,none⟩=some (.slice R.ao R.ts.length R.cap)∧w.cell? ⟨R.br,1,none⟩=some (.int .i64 (pos:Int)):=by
 obtain⟨pos,h1,h2,h3⟩:=h.blk;exact⟨pos,h1,h2,aQ h3 rfl,aQ h3 rfl⟩
end Go.Proofs.YtdoplekppjkkpaaGreatDoor
end
section
namespace Go.Proofs.YtdoplekppjkkpaaGreatDoor
open Go.RowKit
open Md Pz
theorem Sq {w w':World} {T:TypeId} (h:w'=w∨∃t,w'=Lib.bytesWorld w T t):Below w.heap.size w w':=by
 rcases h with rfl|⟨t,rfl⟩
 ·exact au _ _
 ·exact Lib.bytesWorld_below _ _ _
theorem Yz (R:Rp) (rest:bG) (w:World) (h:isNum rest=false) (hI:eP w R rest):
 Calls Tryz.prog 150 #[.pointer (some ⟨R.br,0,none⟩)] w λe w'=>e= .returned (.tuple #[.int .i64 0,.bool false])∧Below w.heap.size w w':=by
 have HN:=ah (rC R rest w hI);have h1:(((nextK rest:Nat):Int)==2)=false:=(Ou 2 rest).symm.trans h;unfold yg at HN;generalize ((nextK rest:Nat):Int)=k at *;clear hI h;go_enter Tryz.func150,Tryz.ntmps150;go_wp2_with fail;refine HN.o.mono ?_;rintro e w1 ⟨rfl,hb⟩;have HB:=ah hb;clear hb HN;go_wp2_with fail
 go_ret2
 exact⟨rfl,HB.o.alloc HB.o.size _⟩
theorem Uv (R:Rp) (rest:bG) (w:World) (h:isNum rest=true) (hI:eP w R rest):
 Calls Tryz.prog 150 #[.pointer (some ⟨R.br,0,none⟩)] w λe w'=>e= .returned (.tuple #[.int .i64 ((Tk.val (bM rest):Nat):Int),.bool true])∧eP w' R rest.tail∧w.grownBy w' (some R.br):=by
 have HN:=ah (rC R rest w hI);obtain⟨t,r,hr⟩: ∃t r,rest=t::r:=by
  cases rest with
  |nil=>exact absurd h (by simp[isNum,nextK])
  |cons t r=>exact⟨t,r,rfl⟩
 have HR:=ah hr;have HI:=ah hI;have hk:nextK rest=2:=by simpa[isNum]using h
 have hts:=Z7 hI.ts h;have hsz:(tx (bM rest)).size<=9223372036854775806:=by have:=(hI.tsl t (by rw[hr];simp)).2.2.2;rw[hr];show t.text.toArray.size<=_;simp;omega
 have HP:aj (∀w,Calls Tryz.prog 160 #[.string (tx (bM rest)),.int .i64 10,.int .i64 64] w λe w'=>e= .returned (.tuple #[.int .i64 ((Tk.val (bM rest):Nat):Int),.nilIface])∧(w'=w∨∃t,w'=Lib.bytesWorld w 5 t)):=ah (λw=>Tryz.strconv_ParseInt_10_at64_ok (tx (bM rest)) hsz _ (by rw[Nh];exact YB hts.1.1 hts.1.2 hts.2) w);unfold yg at HN;rw[hk]at HN;have hlt:=hI.lt;clear hI h hr hk hts;generalize ((Tk.val (bM rest):Nat):Int)=n at *;go_enter Tryz.func150,Tryz.ntmps150;go_wp2_with fail;refine HN.o.mono ?_;rintro e w1 ⟨rfl,hb⟩;have HB:=ah hb;clear hb HN;go_wp2_with fail;refine(HP.o _).mono ?_;rintro e w2 ⟨rfl,hb⟩;have HB2:aj (Below w.heap.size w w2):=ah ((HB.o.alloc HB.o.size _).trans ((Sq hb).mono (by have:=HB.o.size;simp;omega)));obtain⟨pos,hp,c0,c1,f1,HX⟩:=(HI.o.below HB2.o).open;clear hb HP;go_wp2_with fail
 go_ret2
 obtain⟨q1,q2⟩:=HX.o t r HR.o;exact⟨rfl,agA,jC (jL HB2.o) q2⟩
end Go.Proofs.YtdoplekppjkkpaaGreatDoor
end
section
namespace Go.Proofs.YtdoplekppjkkpaaGreatDoor
open Go.RowKit
open Md Pz
def Jo (x:E):Prop:=qW x.op x.n x.nm x.kids
def EV (B:Nat) (x:E) (v:Value) (w:World):Prop:= ∃ao cap,v=exV x.op x.n x.nm x.kids ao cap∧Jo x∧ig B w (λw2=>x.kids.At w2 w2.heap.size ao 0)
theorem EV.next {B:Nat} {x:E} {v:Value} {w w':World} (h:EV B x v w) (ha:kC B w w'):EV B x v w':=by
 obtain⟨ao,cap,h1,h2,h3⟩:=h;exact⟨ao,cap,h1,h2,h3.next ha⟩
theorem EV.mono {B B':Nat} {x:E} {v:Value} {w:World} (h:EV B' x v w) (hB:B<=B'):EV B x v w:=by
 obtain⟨ao,cap,h1,h2,h3⟩:=h;exact⟨ao,cap,h1,h2,h3.mono hB⟩
def zE:Value:= .agg #[.int .i64 0,.int .i64 0,.string ⟨#[]⟩,.slice none 0 0]
def wY (R:Rp) (w:World) (r:oJ E) (e:Ending) (w':World):Prop:=
 match r with
 | .ok x rest=> ∃v,e= .returned (.tuple #[v,.bool true])∧EV w.heap.size x v w'∧eP w' R rest∧w.grownBy w' (some R.br)
 | .no rest=>e= .returned (.tuple #[zE,.bool false])∧eP w' R rest∧w.grownBy w' (some R.br)
def Bg (w:World) (b:Nat) (v0 v1 v2 v3:Value):World:=(((w.setCell ⟨b,0,none⟩ v0).setCell ⟨b,1,none⟩ v1).setCell ⟨b,2,none⟩ v2).setCell ⟨b,3,none⟩ v3
theorem CW {br:Nat} {w w':World} (h:w.grownBy w' (some br)) (a:Addr) (v:Value) (hb:w.heap.size<=a.block):w.grownBy (w'.setCell a v) (some br):=
 ⟨h.os,h.tape,h.output,aaR,λk hk hn=>(bg w' a v rfl agH).trans (h.block k hk hn)⟩
theorem Af {br:Nat} {w w':World} (h:w.grownBy w' (some br)) (o:Obj):w.grownBy (w'.alloc o) (some br):=jC h (jL (ak _ _))
theorem vY {w:World} {R:Rp} {rest:bG} (h:eP w R rest) (a:Addr) (v:Value) (h0:R.B0<=a.block) (h1:a.block≠R.br):eP (w.setCell a v) R rest:=by
 obtain⟨pos,k1,k2,k3⟩:=h.blk;exact⟨⟨pos,k1,k2,(bg w a v rfl h1).trans k3⟩,h.tok.below (cK (bU w a v) h0 (aJ R.b0 (bH h.lt))),h.ok,h.tl⟩
theorem Ai {w:World} {R:Rp} {rest:bG} (h:eP w R rest) (o:Obj):eP (w.alloc o) R rest:=h.below (ak _ _)
structure Wk (R:Rp) (w W:World) (rest:bG):Prop where
 rd:eP W R rest
 gr:w.grownBy W (some R.br)
 lt:R.br<w.heap.size
theorem Wk.start {R:Rp} {w:World} {rest:bG} (h:eP w R rest):Wk R w w rest:=⟨h,Ca _,h.lt⟩
section
variable {R:Rp} {w W W':World} {rest rest':bG}
theorem Wk.set (h:Wk R w W rest) (a:Addr) (v:Value) (hb:w.heap.size<=a.block):Wk R w (W.setCell a v) rest:=
 ⟨vY h.rd a v (by have:=R.b0;have:=h.lt;omega) aeT,CW h.gr a v hb,h.lt⟩
theorem Wk.alloc (h:Wk R w W rest) (o:Obj):Wk R w (W.alloc o) rest:=⟨Ai h.rd o,Af h.gr o,h.lt⟩
theorem Wk.below (h:Wk R w W rest) (hb:Below W.heap.size W W'):Wk R w W' rest:=⟨h.rd.below hb,jC h.gr (jL hb),h.lt⟩
theorem Wk.then (h:Wk R w W rest) (h1:eP W' R rest') (h2:W.grownBy W' (some R.br)):Wk R w W' rest':=⟨h1,jC h.gr h2,h.lt⟩
theorem Wk.Bg (h:Wk R w W rest) (b:Nat) (v0 v1 v2 v3:Value) (hb:w.heap.size<=b):Wk R w (Bg W b v0 v1 v2 v3) rest:=
 (((h.set ⟨b,0,none⟩ v0 hb).set ⟨b,1,none⟩ v1 hb).set ⟨b,2,none⟩ v2 hb).set ⟨b,3,none⟩ v3 hb
theorem Wk.kept (h:Wk R w W rest) (h2:W.grownBy W' (some R.br)) {k:Nat} (hk:w.heap.size<=k) (hl:k<W.heap.size):W'.heap[k]? =W.heap[k]?:=h2.block k hl afv
end
theorem Ry (w:World) (b:Nat) (v0 v1 v2 v3:Value):kC (b+1) w (Bg w b v0 v1 v2 v3):=by
 have x1:kC (b+1) w _:=iL w ⟨b,0,none⟩ v0 (Nat.lt_succ_self _);have x2:=x1.trans (iL _ ⟨b,1,none⟩ v1 (Nat.lt_succ_self _));have x3:=x2.trans (iL _ ⟨b,2,none⟩ v2 (Nat.lt_succ_self _));exact x3.trans (iL _ ⟨b,3,none⟩ v3 (Nat.lt_succ_self _))
theorem YK (w:World) (b:Nat) (v0 v1 v2 v3:Value):(Bg w b v0 v1 v2 v3).heap.size=w.heap.size:=by simp[Bg,World.setCell]
theorem AL {br B:Nat} {w w':World} (h:w.grownBy w' (some br)) (hB:br<B):kC B w w':=⟨h.size,λk h1 h2=>h.block k h2 agK⟩
end Go.Proofs.YtdoplekppjkkpaaGreatDoor
end
section
namespace Go.Proofs.YtdoplekppjkkpaaGreatDoor
open Go.RowKit
open Md Pz
theorem Aq {w:World} {b:Nat} {t:TypeId} (h:w.heap[b]? =some (.cells #[.int .i64 0,.int .i64 0,.string ⟨#[]⟩,.slice none 0 0] t (0,0))):
 (w.cell? ⟨b,0,none⟩=some (.int .i64 0)∧w.cell? ⟨b,1,none⟩=some (.int .i64 0)∧w.cell? ⟨b,2,none⟩=some (.string ⟨#[]⟩)∧w.cell? ⟨b,3,none⟩=some (.slice none 0 0))∧w.frozen? ⟨b,0,none⟩=false∧w.frozen? ⟨b,1,none⟩=false∧w.frozen? ⟨b,2,none⟩=false∧w.frozen? ⟨b,3,none⟩=false:=
 ⟨⟨aQ h rfl,aQ h rfl,aQ h rfl,aQ h rfl⟩,bK h,bK h,bK h,bK h⟩
theorem RL {B g:Nat} {w w1:World} {Q:World->Prop} (h:ig B w Q) (ha:kC B w w1) (hg:w.heap.size<=g):oK B (some g) w1 Q:=λw' h'=>
 h w' ⟨aJ ha.1 h'.1,λk h1 h2=>(h'.2 k h1 (λe=>agn) (aR h2 ha.1)).trans (ha.2 k h1 h2)⟩
theorem DT:bY 0:=afB
theorem Lr {R:Rp} {w w2:World} {r:bG} {x:E} {ao:Option Addr} {cap:Nat} {a b c d:Value} (h:Wk R w w2 r) (hE:Jo x∧ig (w.heap.size+1) w2 (λw2=>x.kids.At w2 w2.heap.size ao 0)):
 wY R w (.ok x r) (.returned (.tuple #[exV x.op x.n x.nm x.kids ao cap,.bool true])) (Bg w2 w.heap.size a b c d):=by
 have hk:=h.Bg w.heap.size a b c d (aB _);exact⟨_,rfl,⟨ao,cap,rfl,hE.1,(hE.2.next (Ry w2 w.heap.size a b c d)).mono (jl _)⟩,hk.rd,hk.gr⟩
theorem ae1 {R:Rp} {w w2:World} {r:bG} {op n:Int} {nm:ByteArray} {a b c d:Value} (h:Wk R w w2 r) (h1:bY op) (h2:bY n) (h3:nm.size<=maxLen):
 wY R w (.ok ⟨op,n,nm,.nil⟩ r) (.returned (.tuple #[exV op n nm .nil none 0,.bool true])) (Bg w2 w.heap.size a b c d):=by
 have hk:=h.Bg w.heap.size a b c d (aB _);exact⟨_,rfl,⟨none,0,rfl,⟨h1,h2,h3,bF _⟩,λ_ _=>trivial⟩,hk.rd,hk.gr⟩
theorem aR6 {R:Rp} {w w2:World} {r:bG} {x:E} {ao:Option Addr} {cap:Nat} {nm:ByteArray} {t:TypeId} (hn:nm.size<=maxLen) (h:Wk R w w2 r) (hlt:w.heap.size<w2.heap.size) (hE:Jo x∧ig (w.heap.size+1) w2 (λw2=>x.kids.At w2 w2.heap.size ao 0)):
 wY R w (.ok (Ul nm x) r) (.returned (.tuple #[exV 3 0 nm (.cons x.op x.n x.nm x.kids .nil) (some ⟨w2.heap.size,0,none⟩) 1,.bool true]))
  ((Bg w2 w.heap.size (.int .i64 3) (.int .i64 0) (.string nm) (.slice (some ⟨w2.heap.size,0,none⟩) 1 1)).alloc (.cells #[.int .i64 x.op,.int .i64 x.n,.string x.nm,.slice ao x.kids.len cap] t)):=by
 have hk:=h.Bg w.heap.size (.int .i64 3) (.int .i64 0) (.string nm) (.slice (some ⟨w2.heap.size,0,none⟩) 1 1) (aB _);have ha:=Ry w2 w.heap.size (.int .i64 3) (.int .i64 0) (.string nm) (.slice (some ⟨w2.heap.size,0,none⟩) 1 1);have hs:=YK w2 w.heap.size (.int .i64 3) (.int .i64 0) (.string nm) (.slice (some ⟨w2.heap.size,0,none⟩) 1 1);generalize Bg w2 w.heap.size _ _ _ _=W at *;refine⟨_,rfl,⟨_,1,rfl,⟨(by unfold bY;decide:bY 3),DT,hn,by simp[Ul,bT.len,maxLen]⟩,?_⟩,(hk.alloc _).rd,(hk.alloc _).gr⟩;rw[<- hs];exact(KG (heap_alloc_new _ _) agH hE.1 ((hE.2.next ha).next (bS (ak _ _)))).mono (jl _)
theorem yJ {l:List UInt8} (h:Tk.jf l=true):(tx l).size<=maxLen:=by
 unfold Tk.jf at h;simp only[aP,decide_eq_true_eq]at h;have:(tx l).size=l.length:=by simp[tx,ByteArray.size]
 unfold maxLen;omega
theorem XA {w:World} {g:Nat} {x:E} {ao:Option Addr} {cap:Nat} {t:TypeId} (h:w.heap[g]? =some (.cells (QD x.op x.n x.nm x.kids ao cap).toArray t (0,0))):
 (w.cell? ⟨g,0,none⟩=some (.int .i64 x.op)∧w.cell? ⟨g,1,none⟩=some (.int .i64 x.n)∧w.cell? ⟨g,2,none⟩=some (.string x.nm)∧w.cell? ⟨g,3,none⟩=some (.slice ao x.kids.len cap))∧w.frozen? ⟨g,0,none⟩=false∧w.frozen? ⟨g,1,none⟩=false∧w.frozen? ⟨g,2,none⟩=false∧w.frozen? ⟨g,3,none⟩=false:=
 ⟨⟨aQ h rfl,aQ h rfl,aQ h rfl,aQ h rfl⟩,bK h,bK h,bK h,bK h⟩
def Qe (r:bG):Prop:= ∀lv:Int,opAt lv r=0
inductive Ez:bG->E->bG->Prop
 |nm {ts:bG} :isName ts=true->at' [91] ts.tail=false->Qe ts.tail->Ez ts ⟨2,0,tx (bM ts),.nil⟩ ts.tail
 |ix {ts r:bG} {x:E} :isName ts=true->at' [91] ts.tail=true->Ez ts.tail.tail x r->at' [93] r=true->Qe r.tail->Ez ts (Ul (tx (bM ts)) x) r.tail
theorem Ez.name {ts r:bG} {x:E} (h:Ez ts x r):isName ts=true:=by cases h <;> assumption
theorem Ez.noop {ts r:bG} {x:E} (h:Ez ts x r):Qe r:=by cases h <;> assumption
theorem ar9 {ts:bG} (h:isName ts=true) (y:List UInt8):at' y ts=false:=by
 unfold isName at h;unfold at';rw[eq_of_beq h];rfl
theorem Yx {ts:bG} (h:isName ts=true):isNum ts=false:=by
 unfold isName at h;unfold isNum;rw[eq_of_beq h];rfl
theorem got {R:Rp} {w W w2:World} {ts r:bG} {x:E} {e:Ending} {a:Array Value} {t:TypeId} (hk:Wk R w W ts) (hz:W.heap[w.heap.size]? =some (.cells a t (0,0))) (h:wY R W (.ok x r) e w2):
 ∃ao cap,e= .returned (.tuple #[exV x.op x.n x.nm x.kids ao cap,.bool true])∧aj (Wk R w w2 r∧w2.heap[w.heap.size]? =some (.cells a t (0,0))∧(Jo x∧ig (w.heap.size+1) w2 (λw2=>x.kids.At w2 w2.heap.size ao 0))):=by
 obtain⟨v,rfl,hv,h2,h3⟩:=h;have hl:=(aO hz);obtain⟨ao,cap,rfl,hok,hst⟩:=hv.mono hl;exact⟨ao,cap,rfl,ah ⟨hk.then h2 h3,(hk.kept h3 (aB _) hl).trans hz,hok,hst⟩⟩
set_option maxHeartbeats 1000000
section
variable (R:Rp) (ts r:bG) (x:E)
theorem ba3 (he:isName ts=true) (HX:aj (∀w,eP w R ts->Calls Tryz.prog 198 #[.pointer (some ⟨R.br,0,none⟩)] w (wY R w (.ok x r)))) (w:World) (hI:eP w R ts):
 Calls Tryz.prog 195 #[.pointer (some ⟨R.br,0,none⟩)] w (wY R w (.ok x r)):=by
 have HI:=ah hI;clear hI;go_enter Tryz.func195,Tryz.ntmps195;go_upto_region 1 with fail;generalize hW:World.alloc w _=W;have HK:aj (Wk R w W ts):=ah acG;have HZ:aj (W.heap[w.heap.size]? =some (.cells #[.int .i64 0,.int .i64 0,.string ⟨#[]⟩,.slice none 0 0] 72 (0,0))):=ah acA;clear hW;go_wp2_with fail;refine(pQ R _ _ ⟨#[45]⟩ rfl (ar9 he _) HK.o.rd).mono ?_;rintro e w0 ⟨rfl,h2⟩;have yw:=ah (HK.o.below h2);have HZ0:=jV h2 HZ;clear h2 HK HZ;have HK:=yw;have HZ:=HZ0;clear yw HZ0;go_wp2_with fail;refine(pQ R _ _ ⟨#[33]⟩ rfl (ar9 he _) HK.o.rd).mono ?_;rintro e w0 ⟨rfl,h2⟩;have yw:=ah (HK.o.below h2);have HZ0:=jV h2 HZ;clear h2 HK HZ;have HK:=yw;have HZ:=HZ0;clear yw HZ0;go_wp2_with fail;refine(HX.o _ HK.o.rd).mono ?_;intro e w2 h';obtain⟨ao,cap,rfl,HG⟩:=got HK.o HZ.o h';clear h' HK HZ;obtain⟨⟨y0,y1,y2,y3⟩,f0,f1,f2,f3⟩:=Aq HG.o.2.1;have hlt2:w.heap.size<w2.heap.size:=(aO HG.o.2.1);unfold exV;go_wp2_with fail;exact bodyPost_ret (v:= .tuple #[exV x.op x.n x.nm x.kids ao cap,.bool true]) (by simp[results,Tryz.results195,go_sem,exV,y0,y1,y2,y3,hlt2]) rfl (Lr HG.o.1 HG.o.2.2)
theorem au8 (HX:aj (∀w,eP w R ts->Calls Tryz.prog 195 #[.pointer (some ⟨R.br,0,none⟩)] w (wY R w (.ok x r)))) (w:World) (hI:eP w R ts):
 Calls Tryz.prog 186 #[.pointer (some ⟨R.br,0,none⟩),.int .i64 6] w (wY R w (.ok x r)):=by
 have HI:=ah hI;clear hI;go_enter Tryz.func186,Tryz.ntmps186;go_upto_region 1 with fail;generalize hW:World.alloc w _=W;have HK:aj (Wk R w W ts):=ah acG;have HZ:aj (W.heap[w.heap.size]? =some (.cells #[.int .i64 0,.int .i64 0,.string ⟨#[]⟩,.slice none 0 0] 72 (0,0))):=ah acA;clear hW;go_wp2_with fail;refine(HX.o _ HK.o.rd).mono ?_;intro e w2 h';obtain⟨ao,cap,rfl,HG⟩:=got HK.o HZ.o h';clear h' HK HZ;obtain⟨⟨y0,y1,y2,y3⟩,f0,f1,f2,f3⟩:=Aq HG.o.2.1;have hlt2:w.heap.size<w2.heap.size:=(aO HG.o.2.1);unfold exV;go_wp2_with fail;exact bodyPost_ret (v:= .tuple #[exV x.op x.n x.nm x.kids ao cap,.bool true]) (by simp[results,Tryz.results186,go_sem,exV,y0,y1,y2,y3,hlt2]) rfl (Lr HG.o.1 HG.o.2.2)
theorem aK0 (hn:Qe r) (lv:Nat) (hlv:lv<=5) (HX:aj (∀w,eP w R ts->Calls Tryz.prog 186 #[.pointer (some ⟨R.br,0,none⟩),.int .i64 ((lv:Int)+1)] w (wY R w (.ok x r)))) (w:World) (hI:eP w R ts):
 Calls Tryz.prog 186 #[.pointer (some ⟨R.br,0,none⟩),.int .i64 (lv:Int)] w (wY R w (.ok x r)):=by
 have hq:decide ((5:Int)<(lv:Int))=false:=adf
 have bO6:(0:Int)<=(lv:Int):=agH
 have bO7:(lv:Int)<=6:=agH
 have HI:=ah hI;clear hI;go_enter Tryz.func186,Tryz.ntmps186;go_upto_region 1 with fail;generalize hW:World.alloc w _=W;have HK:aj (Wk R w W ts):=ah acG;have HZ:aj (W.heap[w.heap.size]? =some (.cells #[.int .i64 0,.int .i64 0,.string ⟨#[]⟩,.slice none 0 0] 72 (0,0))):=ah acA;clear hW;go_wp2_with fail;refine(HX.o _ HK.o.rd).mono ?_;have uG:=HK;have HZ1:=HZ;clear HK HZ;rintro e w2 ⟨v,rfl,hv,h2,h3⟩;have qJ:=ah (uG.o.then h2 h3);have HZ2:=ah ((uG.o.kept h3 (aB _) (aO HZ1.o)).trans HZ1.o);have oV:=ah (hv.mono (aO HZ1.o));clear h2 h3 uG HZ1 hv;obtain⟨ao,cap,rfl,hok,hst⟩:=oV.o;have HE:=ah (aI hok hst);clear hok hst oV;unfold exV;go_upto_region 4 with fail;generalize hW:World.alloc w2 _=W2;obtain⟨g,hg,-,-,HB3,-⟩:=qD hW;have tY:aj (Wk R w W2 r):=ah aeu;have HZ3:aj (W2.heap[w.heap.size]? =some (.cells #[.int .i64 0,.int .i64 0,.string ⟨#[]⟩,.slice none 0 0] 72 (0,0))):=ah abp;have kU:aj (Jo x∧ig (w.heap.size+1) W2 (λw2=>x.kids.At w2 w2.heap.size ao 0)):=ah ⟨HE.o.1,acs⟩;have HG:aj (w.heap.size<g):=ah (by rw[<- hg];exact(aO HZ2.o));have HEX:aj (oK (w.heap.size+1) (some g) W2 (λw2=>x.kids.At w2 w2.heap.size ao 0)):=ah abr;rw[hg];clear hW hg qJ HZ2 HE;go_wp2_with fail;go_loopw [8] (λ_ wr=>wr=W2) (λ_ _=>0)
 case atStart=>rfl
 case round=>subst hrel;have HOA:aj (Calls Tryz.prog 196 #[.pointer (some ⟨R.br,0,none⟩),.int .i64 (lv:Int)] wr λe w'=>e= .returned (.int .i64 0)∧Below wr.heap.size wr w'):=ah (by have:=Rs R r wr (lv:Int) tY.o.rd;rw[hn]at this;exact this);go_wp2_with fail;refine HOA.o.mono ?_;rintro e w3 ⟨rfl,h2⟩;have HK4:=ah (tY.o.below h2);have uT:aj (Jo x∧ig (w.heap.size+1) w3 (λw2=>x.kids.At w2 w2.heap.size ao 0)):=ah ⟨kU.o.1,kU.o.2.next (bS h2)⟩;obtain⟨⟨y0,y1,y2,y3⟩,f0,f1,f2,f3⟩:=Aq ((h2.block _ (aO HZ3.o)).trans HZ3.o);obtain⟨⟨z0,z1,z2,z3⟩,d0,d1,d2,d3⟩:=XA ((h2.block _ (aO HB3.o)).trans HB3.o);clear h2 tY HZ3 HB3 kU HOA HEX;go_wp2_with fail;exact bodyPost_ret (v:= .tuple #[exV x.op x.n x.nm x.kids ao cap,.bool true]) (by simp[results,Tryz.results186,go_sem,exV,y0,y1,y2,y3]) rfl (Lr HK4.o uT.o)
theorem aW9 (HX:aj (∀w,eP w R ts->Calls Tryz.prog 186 #[.pointer (some ⟨R.br,0,none⟩),.int .i64 1] w (wY R w (.ok x r)))) (w:World) (hI:eP w R ts):
 Calls Tryz.prog 171 #[.pointer (some ⟨R.br,0,none⟩)] w (wY R w (.ok x r)):=by
 have HI:=ah hI;clear hI;go_enter Tryz.func171,Tryz.ntmps171;go_upto_region 1 with fail;generalize hW:World.alloc w _=W;have HK:aj (Wk R w W ts):=ah acG;have HZ:aj (W.heap[w.heap.size]? =some (.cells #[.int .i64 0,.int .i64 0,.string ⟨#[]⟩,.slice none 0 0] 72 (0,0))):=ah acA;clear hW;go_wp2_with fail;refine(HX.o _ HK.o.rd).mono ?_;intro e w2 h';obtain⟨ao,cap,rfl,HG⟩:=got HK.o HZ.o h';clear h' HK HZ;obtain⟨⟨y0,y1,y2,y3⟩,f0,f1,f2,f3⟩:=Aq HG.o.2.1;have hlt2:w.heap.size<w2.heap.size:=(aO HG.o.2.1);unfold exV;go_wp2_with fail;exact bodyPost_ret (v:= .tuple #[exV x.op x.n x.nm x.kids ao cap,.bool true]) (by simp[results,Tryz.results171,go_sem,exV,y0,y1,y2,y3,hlt2]) rfl (Lr HG.o.1 HG.o.2.2)
end
theorem U1 (R:Rp) {ts r:bG} {x:E} (h:Ez ts x r) (hp: ∀w,eP w R ts->Calls Tryz.prog 198 #[.pointer (some ⟨R.br,0,none⟩)] w (wY R w (.ok x r))) (w:World) (hI:eP w R ts):
 Calls Tryz.prog 171 #[.pointer (some ⟨R.br,0,none⟩)] w (wY R w (.ok x r)):=by
 have b (n:Nat) (hn:n<=5):=aK0 R ts r x h.noop n hn;exact aW9 R ts r x (ah (b 1 agI (ah (b 2 agI (ah (b 3 agI (ah (b 4 agI (ah (b 5 agI (ah (au8 R ts r x (ah (ba3 R ts r x h.name (ah hp))))))))))))))) w hI
theorem aZ3 (R:Rp): ∀ {ts r:bG} {x:E},Ez ts x r->∀w,eP w R ts->Calls Tryz.prog 198 #[.pointer (some ⟨R.br,0,none⟩)] w (wY R w (.ok x r)):=by
 intro ts r x h
 induction h with
 |nm h1 h2=>rename_i ts _;intro w hI;have HI:=ah hI;have yx:aj ((tx (bM ts)).size<=maxLen):=ah (yJ (yO hI.ts h1));clear hI;go_enter Tryz.func198,Tryz.ntmps198;go_upto_region 1 with fail;generalize hW:World.alloc w _=W;have HK:aj (Wk R w W ts):=ah acG;have HZ:aj (W.heap[w.heap.size]? =some (.cells #[.int .i64 0,.int .i64 0,.string ⟨#[]⟩,.slice none 0 0] 72 (0,0))):=ah acA;clear hW;go_wp2_with fail;refine(Yz R _ _ (Yx h1) HK.o.rd).mono ?_;rintro e w0 ⟨rfl,h2⟩;have yw:=ah (HK.o.below h2);have HZ0:=jV h2 HZ;clear h2 HK HZ;have HK:=yw;have HZ:=HZ0;clear yw HZ0;go_wp2_with fail;refine(vR R _ _ h1 HK.o.rd).mono ?_;rintro e w0 ⟨rfl,h2,h3⟩;have yw:=ah (HK.o.then h2 h3);have HZ0:=ah ((HK.o.kept h3 (aB _) (aO HZ.o)).trans HZ.o);clear h2 h3 HK HZ;have HK:=yw;have HZ:=HZ0;clear yw HZ0;go_wp2_with fail;refine(pQ R _ _ ⟨#[91]⟩ rfl h2 HK.o.rd).mono ?_;rintro e w0 ⟨rfl,h2⟩;have yw:=ah (HK.o.below h2);have HZ0:=jV h2 HZ;clear h2 HK HZ;have HK:=yw;have HZ:=HZ0;clear yw HZ0;obtain⟨⟨y0,y1,y2,y3⟩,f0,f1,f2,f3⟩:=Aq HZ.o;go_wp2_with fail;exact bodyPost_ret (v:= .tuple #[exV 2 0 (tx (bM ts)) .nil none 0,.bool true]) (by simp[results,Tryz.results198,go_sem,y0,y1,y2,y3,exV,bT.len]) rfl (ae1 HK.o aeO DT yx.o)
 |ix h1 h2 hx h4 hn ih=>rename_i ts r x;intro w hI;have HI:=ah hI;have HX:=ah (U1 R hx ih);have yx:aj ((tx (bM ts)).size<=maxLen):=ah (yJ (yO hI.ts h1));obtain⟨nm,Ey⟩: ∃nm,aj (tx (bM ts)=nm):=⟨_,ah rfl⟩;rw[Ey.o]at yx⊢;clear hI ih hx hn;go_enter Tryz.func198,Tryz.ntmps198;go_upto_region 1 with fail;generalize hW:World.alloc w _=W;have HK:aj (Wk R w W ts):=ah acG;have HZ:aj (W.heap[w.heap.size]? =some (.cells #[.int .i64 0,.int .i64 0,.string ⟨#[]⟩,.slice none 0 0] 72 (0,0))):=ah acA;clear hW;go_wp2_with fail;refine(Yz R _ _ (Yx h1) HK.o.rd).mono ?_;rintro e w0 ⟨rfl,h2⟩;have yw:=ah (HK.o.below h2);have HZ0:=jV h2 HZ;clear h2 HK HZ;have HK:=yw;have HZ:=HZ0;clear yw HZ0;go_wp2_with fail;refine(vR R _ _ h1 HK.o.rd).mono ?_;rw[Ey.o];rintro e w0 ⟨rfl,h2,h3⟩;have yw:=ah (HK.o.then h2 h3);have HZ0:=ah ((HK.o.kept h3 (aB _) (aO HZ.o)).trans HZ.o);clear h2 h3 HK HZ;have HK:=yw;have HZ:=HZ0;clear yw HZ0;go_wp2_with fail;refine(kX R _ _ ⟨#[91]⟩ rfl h2 HK.o.rd).mono ?_;rintro e w1 ⟨rfl,h2,h3⟩;have uG:=ah (HK.o.then h2 h3);have HZ1:=ah ((HK.o.kept h3 (aB _) (aO HZ.o)).trans HZ.o);clear h2 h3 HK HZ;go_wp2_with fail;refine(HX.o _ uG.o.rd).mono ?_;rintro e w2 ⟨v,rfl,hv,h2,h3⟩;have qJ:=ah (uG.o.then h2 h3);have HZ2:=ah ((uG.o.kept h3 (aB _) (aO HZ1.o)).trans HZ1.o);have oV:=ah (hv.mono (aO HZ1.o));clear h2 h3 uG HZ1 hv;obtain⟨ao,cap,rfl,hok,hst⟩:=oV.o;have HE:=ah (aI hok hst);clear hok hst oV;unfold exV;go_upto_region 9 with fail;generalize hW:World.alloc w2 _=W2;obtain⟨g,hg,-,-,HB3,-⟩:=qD hW;have tY:aj (Wk R w W2 r):=ah aeu;have HZ3:aj (W2.heap[w.heap.size]? =some (.cells #[.int .i64 0,.int .i64 0,.string ⟨#[]⟩,.slice none 0 0] 72 (0,0))):=ah abp;have kU:aj (Jo x∧ig (w.heap.size+1) W2 (λw2=>x.kids.At w2 w2.heap.size ao 0)):=ah ⟨HE.o.1,acs⟩;have HG:aj (w.heap.size<g):=ah (by rw[<- hg];exact(aO HZ2.o));have HEX:aj (oK (w.heap.size+1) (some g) W2 (λw2=>x.kids.At w2 w2.heap.size ao 0)):=ah abr;rw[hg];clear hW hg qJ HZ2 HE;go_wp2_with fail;refine(kX R _ _ ⟨#[93]⟩ rfl h4 tY.o.rd).mono ?_;rintro e w3 ⟨rfl,h2,h3⟩;have qJ:=ah (tY.o.then h2 h3);have HZ2:=ah ((tY.o.kept h3 (aB _) (aO HZ3.o)).trans HZ3.o);have HB2:=ah ((tY.o.kept h3 (bH HG.o) (aO HB3.o)).trans HB3.o);have HE:aj (Jo x∧ig (w.heap.size+1) w3 (λw2=>x.kids.At w2 w2.heap.size ao 0)):=ah ⟨kU.o.1,kU.o.2.next (AL h3 (Nat.lt_succ_of_lt tY.o.lt))⟩;clear h2 h3 tY HZ3 HB3 kU;obtain⟨⟨y0,y1,y2,y3⟩,f0,f1,f2,f3⟩:=Aq HZ2.o;obtain⟨z0,z1,z2,z3⟩:=cl4 HB2.o;have hlt2:w.heap.size<w3.heap.size:=(aO HZ2.o);have hlt3:g<w3.heap.size:=(aO HB2.o);go_wp2_with fail;exact bodyPost_ret (v:= .tuple #[exV 3 0 nm (.cons x.op x.n x.nm x.kids .nil) (some ⟨w3.heap.size,0,none⟩) 1,.bool true]) (by simp[results,Tryz.results198,go_sem,exV,bT.len,y0,y1,y2,y3,hlt2]) rfl (aR6 yx.o qJ.o hlt2 HE.o)
theorem av7 (R:Rp) {ts r:bG} {x:E} (h:Ez ts x r) (w:World) (hI:eP w R ts):Calls Tryz.prog 171 #[.pointer (some ⟨R.br,0,none⟩)] w (wY R w (.ok x r)):=U1 R h (aZ3 R h) w hI
end Go.Proofs.YtdoplekppjkkpaaGreatDoor
end
section
namespace Go.Proofs.YtdoplekppjkkpaaGreatDoor
open Go.RowKit
open Md Pz
structure Sx where
 h:dF
 b:aZ
 e:aZ
structure Fr (br bs:Nat) (w w':World):Prop where
 os:w'.os=w.os
 tape:w'.tape=w.tape
 output:w'.output=w.output
 size:w.heap.size<=w'.heap.size
 block: ∀k,k<w.heap.size->k≠br->k≠bs->w'.heap[k]? =w.heap[k]?
section
variable {br bs:Nat} {w w1 w2 w':World}
theorem Fr.refl (br bs:Nat) (w:World):Fr br bs w w:=⟨rfl,rfl,rfl,aB _,λ_ _ _ _=>rfl⟩
theorem Fr.trans (h:Fr br bs w w1) (k:Fr br bs w1 w2):Fr br bs w w2:=
 ⟨k.os.trans h.os,k.tape.trans h.tape,k.output.trans h.output,aJ h.size k.size,λj hj h1 h2=>(k.block j (aR hj h.size) h1 h2).trans (h.block j hj h1 h2)⟩
theorem Fr.uQ (h:w.grownBy w' (some br)):Fr br bs w w':=⟨h.os,h.tape,h.output,h.size,λk hk h1 _=>h.block k hk ahF⟩
theorem Fr.set (h:Fr br bs w w') (a:Addr) (v:Value) (ha:a.block=bs∨w.heap.size<=a.block):Fr br bs w (w'.setCell a v):=
 ⟨h.os,h.tape,h.output,aaR,λk hk h1 h2=>(bg w' a v rfl agH).trans (h.block k hk h1 h2)⟩
theorem Fr.alloc (h:Fr br bs w w') (o:Obj):Fr br bs w (w'.alloc o):=h.trans (Fr.uQ (jL (ak _ _)))
theorem Fr.gr (h:Fr br bs w1 w') (hb:Below w.heap.size w w1) (hs:w.heap.size<=bs):w.grownBy w' (some br):=
 ⟨h.os.trans hb.os,h.tape.trans hb.tape,h.output.trans hb.output,aJ hb.size h.size,λk hk h1=>(h.block k (aR hk hb.size) agO agH).trans (hb.block k hk)⟩
end
def zS:Sl:=⟨none,0,none,0,none,0,none,0⟩
structure Pm (R:Rp) (bs B:Nat) (w:World) (x:bQ) (rest:bG):Prop where
 rd:eP w R rest
 lt:bs<B∧R.br<B
 ne:bs≠R.br
 b0:R.B0<=bs
 sz:B<=w.heap.size
 blk:w.heap[bs]? =some (.cells (bQ.f x).toArray 74 (0,0))
 ok:xg x.h x.b x.e
 st:ig B w (bQ.I x)
section
variable {R:Rp} {bs B:Nat} {w W W':World} {x:bQ} {rest rest':bG}
theorem Pm.then (h:Pm R bs B W x rest) (h1:eP W' R rest') (h2:W.grownBy W' (some R.br)):Pm R bs B W' x rest':=
 ⟨h1,h.lt,h.ne,h.b0,aJ h.sz h2.size,(h2.block _ (aR h.lt.1 h.sz) (by simp;exact h.ne)).trans h.blk,h.ok,h.st.next (AL h2 h.lt.2)⟩
theorem Pm.below (h:Pm R bs B W x rest) (hb:Below W.heap.size W W'):Pm R bs B W' x rest:=h.then (h.rd.below hb) (jL hb)
theorem Pm.alloc (h:Pm R bs B W x rest) (o:Obj):Pm R bs B (W.alloc o) x rest:=h.below (ak _ _)
theorem Pm.put (h:Pm R bs B W x rest) (j:Nat) (v:Value) {y:bQ} (hy:(bQ.f x).toArray.setIfInBounds j v=(bQ.f y).toArray) (hok:xg y.h y.b y.e) (hst:ig B W (bQ.I y)):Pm R bs B (W.setCell ⟨bs,j,none⟩ v) y rest:=
 ⟨vY h.rd _ v h.b0 h.ne,h.lt,h.ne,h.b0,by have:=h.sz;simpa[World.setCell]using this,by rw[dI h.blk,hy],hok,hst.next (iL W ⟨bs,j,none⟩ v h.lt.1)⟩
theorem Pm.nm (h:Pm R bs B W x rest) (s:ByteArray) (hs:s.size<=maxLen):Pm R bs B (W.setCell ⟨bs,2,none⟩ (.string s)) ⟨{x.h with nm:=s},x.b,x.e,x.s⟩ rest:=
 h.put 2 _ rfl ⟨h.ok.1,h.ok.2.1,hs,h.ok.2.2.2⟩ h.st
theorem Pm.arg (h:Pm R bs B W x rest) (s:ByteArray) (hs:s.size<=maxLen):Pm R bs B (W.setCell ⟨bs,3,none⟩ (.string s)) ⟨{x.h with arg:=s},x.b,x.e,x.s⟩ rest:=
 h.put 3 _ rfl ⟨h.ok.1,h.ok.2.1,h.ok.2.2.1,hs,h.ok.2.2.2.2⟩ h.st
theorem Pm.op (h:Pm R bs B W x rest) (n:Int) (hn:bY n):Pm R bs B (W.setCell ⟨bs,0,none⟩ (.int .i64 n)) ⟨{x.h with op:=n},x.b,x.e,x.s⟩ rest:=
 h.put 0 _ rfl ⟨hn,h.ok.2⟩ h.st
theorem Pm.idx (h:Pm R bs B W x rest) (l:bT) (ao:Option Addr) (cap:Nat) (hl:l.len<=maxLen) (hst:ig B W (λw2=>l.At w2 w2.heap.size ao 0)):
 Pm R bs B (W.setCell ⟨bs,4,none⟩ (.slice ao l.len cap)) ⟨{x.h with idx:=l},x.b,x.e,{x.s with gU:=ao,gy:=cap}⟩ rest:=
 h.put 4 _ rfl ⟨h.ok.1,h.ok.2.1,h.ok.2.2.1,h.ok.2.2.2.1,hl,h.ok.2.2.2.2.2⟩ (λw2 h2=>⟨hst w2 h2,(h.st w2 h2).2⟩)
theorem Pm.body (h:Pm R bs B W x rest) (l:aZ) (ao:Option Addr) (cap:Nat) (hl:l.len<=maxLen) (hst:ig B W (λw2=>l.At w2 w2.heap.size ao 0)):
 Pm R bs B (W.setCell ⟨bs,9,none⟩ (.slice ao l.len cap)) ⟨x.h,l,x.e,{x.s with dB:=ao,cu:=cap}⟩ rest:=
 h.put 9 _ rfl ⟨h.ok.1,h.ok.2.1,h.ok.2.2.1,h.ok.2.2.2.1,h.ok.2.2.2.2.1,h.ok.2.2.2.2.2.1,hl,h.ok.2.2.2.2.2.2.2⟩ (λw2 h2=>⟨(h.st w2 h2).1,(h.st w2 h2).2.1,hst w2 h2,(h.st w2 h2).2.2.2⟩)
theorem Pm.els (h:Pm R bs B W x rest) (l:aZ) (ao:Option Addr) (cap:Nat) (hl:l.len<=maxLen) (hst:ig B W (λw2=>l.At w2 w2.heap.size ao 0)):
 Pm R bs B (W.setCell ⟨bs,10,none⟩ (.slice ao l.len cap)) ⟨x.h,x.b,l,{x.s with iD:=ao,gu:=cap}⟩ rest:=
 h.put 10 _ rfl ⟨h.ok.1,h.ok.2.1,h.ok.2.2.1,h.ok.2.2.2.1,h.ok.2.2.2.2.1,h.ok.2.2.2.2.2.1,h.ok.2.2.2.2.2.2.1,hl⟩ (λw2 h2=>⟨(h.st w2 h2).1,(h.st w2 h2).2.1,(h.st w2 h2).2.2.1,hst w2 h2⟩)
def Wn (w:World) (b:Nat) (v0 v1 v2 v3:Value):World:=(((w.setCell ⟨b,5,none⟩ v0).setCell ⟨b,6,none⟩ v1).setCell ⟨b,7,none⟩ v2).setCell ⟨b,8,none⟩ v3
theorem Pm.ex (h:Pm R bs B W x rest) (y:E) (ao:Option Addr) (cap:Nat) (hy:Jo y) (hst:ig B W (λw2=>y.kids.At w2 w2.heap.size ao 0)):
 Pm R bs B (Wn W bs (.int .i64 y.op) (.int .i64 y.n) (.string y.nm) (.slice ao y.kids.len cap)) ⟨dF.ex x.h y,x.b,x.e,{x.s with fT:=ao,eB:=cap}⟩ rest:=by
 have ha:kC B W (Wn W bs (.int .i64 y.op) (.int .i64 y.n) (.string y.nm) (.slice ao y.kids.len cap)):=by have x1:kC B W _:=iL W ⟨bs,5,none⟩ (.int .i64 y.op) h.lt.1;have x2:=x1.trans (iL _ ⟨bs,6,none⟩ (.int .i64 y.n) h.lt.1);have x3:=x2.trans (iL _ ⟨bs,7,none⟩ (.string y.nm) h.lt.1);exact x3.trans (iL _ ⟨bs,8,none⟩ (.slice ao y.kids.len cap) h.lt.1)
 refine⟨vY (vY (vY (vY h.rd _ _ h.b0 h.ne) _ _ h.b0 h.ne) _ _ h.b0 h.ne) _ _ h.b0 h.ne,h.lt,h.ne,h.b0,aJ h.sz ha.1,?_,⟨h.ok.1,h.ok.2.1,h.ok.2.2.1,h.ok.2.2.2.1,h.ok.2.2.2.2.1,hy,h.ok.2.2.2.2.2.2⟩,?_⟩
 ·unfold Wn;rw[dI (dI (dI (dI h.blk _) _) _) _];rfl
 ·exact λw2 h2=>⟨(h.st w2 (ha.trans h2)).1,hst w2 (ha.trans h2),(h.st w2 (ha.trans h2)).2.2⟩
theorem Pm.cell (h:Pm R bs B W x rest) {j:Nat} {u:Value} (hu:(bQ.f x).toArray[j]? =some u):W.cell? ⟨bs,j,none⟩=some u:=aQ h.blk hu
theorem Pm.free (h:Pm R bs B W x rest) (j:Nat):W.frozen? ⟨bs,j,none⟩=false:=bK h.blk
end
def Vb (R:Rp) (bs B:Nat) (w:World) (res:oJ Sx) (e:Ending) (w':World):Prop:=
 match res with
 | .ok y r=>e= .returned (.bool true)∧(∃s,Pm R bs B w' ⟨y.h,y.b,y.e,s⟩ r)∧Fr R.br bs w w'
 | .no r=>e= .returned (.bool false)∧(∃x,Pm R bs B w' x r)∧Fr R.br bs w w'
def bo1 (R:Rp) (w:World) (res:oJ aZ) (e:Ending) (w':World):Prop:=
 match res with
 | .ok b r=>(∃ao cap,e= .returned (.tuple #[.slice ao b.len cap,.bool true])∧b.len<=4096∧ig w.heap.size w' (λw2=>b.At w2 w2.heap.size ao 0))∧eP w' R r∧w.grownBy w' (some R.br)
 | .no r=>e= .returned (.tuple #[.slice none 0 0,.bool false])∧eP w' R r∧w.grownBy w' (some R.br)
theorem RO {R:Rp} {bs B:Nat} {w W:World} {y:Sx} {s:Sl} {r:bG} (h:Pm R bs B W ⟨y.h,y.b,y.e,s⟩ r) (hf:Fr R.br bs w W):Vb R bs B w (.ok y r) (.returned (.bool true)) W:=⟨rfl,⟨s,h⟩,hf⟩
theorem ba5:Jo ⟨0,0,⟨#[]⟩,.nil⟩:=⟨DT,DT,bF _,bF _⟩
def Eb:Array Value:= #[.int .i64 0,.int .i64 0,.string ⟨#[]⟩,.string ⟨#[]⟩,.slice none 0 0,.int .i64 0,.int .i64 0,.string ⟨#[]⟩,.slice none 0 0,.slice none 0 0,.slice none 0 0]
theorem Df {w w':World} {R:Rp} {rest:bG} {b:Nat} (h:eP w R rest) (hg:w.grownBy w' (some b)) (h0:R.B0<=b) (h1:b≠R.br):eP w' R rest:=by
 obtain⟨pos,k1,k2,k3⟩:=h.blk;exact⟨⟨pos,k1,k2,(hg.block _ h.lt agK).trans k3⟩,h.tok.below (cK hg h0 (aJ R.b0 (bH h.lt))),h.ok,h.tl⟩
theorem xH {br:Nat} {w w':World} (h:w.grownBy w' (some br)) (b o:Nat) (vs:List Value) (hb:w.heap.size<=b):w.grownBy (w'.setCells b o vs) (some br):=
 have k:=eD b vs o w'
 ⟨k.os.trans h.os,k.tape.trans h.tape,k.output.trans h.output,aJ h.size k.size,λj hj hn=>(k.block j (aR hj h.size) agK).trans (h.block j hj hn)⟩
def aI8 (R:Rp) (w:World) (y:Sx) (r:bG) (e:Ending) (w':World):Prop:= ∃s,e= .returned (.tuple #[iE y.h y.b y.e s,.bool true])∧(xg y.h y.b y.e∧ig w.heap.size w' (bQ.I ⟨y.h,y.b,y.e,s⟩))∧eP w' R r∧w.grownBy w' (some R.br)
theorem YP {R:Rp} {bs B:Nat} {w W:World} {y:Sx} {s:Sl} {r:bG} (hP:Pm R bs B W ⟨y.h,y.b,y.e,s⟩ r) (hg:w.grownBy W (some R.br)) (hl:R.br<w.heap.size) (hB:w.heap.size<B):
 aI8 R w y r (.returned (.tuple #[iE y.h y.b y.e s,.bool true])) (W.setCells w.heap.size 0 (bQ.f ⟨y.h,y.b,y.e,s⟩)):=
 ⟨s,rfl,⟨hP.ok,(hP.st.next ⟨(eD w.heap.size _ 0 W).size,λk h1 h2=>(eD w.heap.size _ 0 W).block k h2 agK⟩).mono (bH hB)⟩,Df hP.rd (eD _ _ _ _) afS agH,xH hg _ _ _ (aB _)⟩
theorem z11 {w:World} {b:Nat} {t:TypeId} (h:w.heap[b]? =some (.cells Eb t (0,0))):
 (w.cell? ⟨b,0,none⟩=some (.int .i64 0)∧w.cell? ⟨b,1,none⟩=some (.int .i64 0)∧w.cell? ⟨b,2,none⟩=some (.string ⟨#[]⟩)∧w.cell? ⟨b,3,none⟩=some (.string ⟨#[]⟩)∧w.cell? ⟨b,4,none⟩=some (.slice none 0 0)∧w.cell? ⟨b,5,none⟩=some (.int .i64 0)∧w.cell? ⟨b,6,none⟩=some (.int .i64 0)∧w.cell? ⟨b,7,none⟩=some (.string ⟨#[]⟩)∧w.cell? ⟨b,8,none⟩=some (.slice none 0 0)∧w.cell? ⟨b,9,none⟩=some (.slice none 0 0)∧w.cell? ⟨b,10,none⟩=some (.slice none 0 0))∧∀j,w.frozen? ⟨b,j,none⟩=false:=
 ⟨⟨aQ h rfl,aQ h rfl,aQ h rfl,aQ h rfl,aQ h rfl,aQ h rfl,aQ h rfl,aQ h rfl,aQ h rfl,aQ h rfl,aQ h rfl⟩,λ_=>bK h⟩
theorem Ru {R:Rp} {bs B:Nat} {W:World} {x:bQ} {r:bG} (h:Pm R bs B W x r):
 W.cell? ⟨bs,0,none⟩=some (.int .i64 x.h.op)∧W.cell? ⟨bs,1,none⟩=some (.int .i64 x.h.line)∧W.cell? ⟨bs,2,none⟩=some (.string x.h.nm)∧W.cell? ⟨bs,3,none⟩=some (.string x.h.arg)∧W.cell? ⟨bs,4,none⟩=some (.slice x.s.gU x.h.idx.len x.s.gy)∧W.cell? ⟨bs,5,none⟩=some (.int .i64 x.h.dP)∧W.cell? ⟨bs,6,none⟩=some (.int .i64 x.h.xn)∧W.cell? ⟨bs,7,none⟩=some (.string x.h.dO)∧W.cell? ⟨bs,8,none⟩=some (.slice x.s.fT x.h.bJ.len x.s.eB)∧W.cell? ⟨bs,9,none⟩=some (.slice x.s.dB x.b.len x.s.cu)∧W.cell? ⟨bs,10,none⟩=some (.slice x.s.iD x.e.len x.s.gu):=
 ⟨h.cell rfl,h.cell rfl,h.cell rfl,h.cell rfl,h.cell rfl,h.cell rfl,h.cell rfl,h.cell rfl,h.cell rfl,h.cell rfl,h.cell rfl⟩
theorem RH {R:Rp} {w w1:World} {ts:bG} {kv:Value} {sv:Value} (hI:eP w R ts) (hB:Below w.heap.size w w1) (hz:w1.heap[w.heap.size]? =some (.cells Eb 74 (0,0))) (hL:bY ((fQ ts:Nat):Int)) (gt:Nat) (hg:w1.heap.size=gt):
 ∀W,((w1.alloc (.cells #[kv,sv,.int .i64 ((fQ ts:Nat):Int)] 158)).alloc (.cells #[.int .i64 0,.int .i64 ((fQ ts:Nat):Int),.string ⟨#[]⟩,.string ⟨#[]⟩,.slice none 0 0,.int .i64 0,.int .i64 0,.string ⟨#[]⟩,.slice none 0 0,.slice none 0 0,.slice none 0 0] 74))=W->
 Pm R (gt+1) (gt+2) W ⟨hd 0 ((fQ ts:Nat):Int),.nil,.nil,zS⟩ ts∧Below w.heap.size w W∧W.heap[w.heap.size]? =some (.cells Eb 74 (0,0))∧W.cell? ⟨gt,0,none⟩=some kv∧W.cell? ⟨gt,1,none⟩=some sv∧w.heap.size<gt:=by
 intro W hW;have h0:=(aO hz);have hb1:Below w.heap.size w (w1.alloc (.cells #[kv,sv,.int .i64 ((fQ ts:Nat):Int)] 158)):=hB.alloc hB.size _;have ht:(w1.alloc (.cells #[kv,sv,.int .i64 ((fQ ts:Nat):Int)] 158)).heap[gt]? =some (.cells #[kv,sv,.int .i64 ((fQ ts:Nat):Int)] 158 (0,0)):=by rw[<- hg];exact heap_alloc_new _ _
 have hz1:(w1.alloc (.cells #[kv,sv,.int .i64 ((fQ ts:Nat):Int)] 158)).heap[w.heap.size]? =some (.cells Eb 74 (0,0)):=(heap_alloc_old _ _ h0).trans hz;have hs1:(w1.alloc (.cells #[kv,sv,.int .i64 ((fQ ts:Nat):Int)] 158)).heap.size=gt+1:=by simp[hg]
 generalize w1.alloc (.cells #[kv,sv,.int .i64 ((fQ ts:Nat):Int)] 158)=W1 at *;have hb2:Below w.heap.size w W:=aea
 have ht2:W.heap[gt]? =some (.cells #[kv,sv,.int .i64 ((fQ ts:Nat):Int)] 158 (0,0)):=by rw[<- hW];exact(heap_alloc_old _ _ (aO ht)).trans ht
 refine⟨⟨hI.below hb2,⟨agH,by have:=hI.lt;omega⟩,by have:=hI.lt;omega,by have:=hI.lt;have:=R.b0;omega,ags,acu,⟨DT,hL,bF _,bF _,bF _,ba5,bF _,bF _⟩,λ_ _=>⟨trivial,trivial,trivial,trivial⟩⟩,hb2,?_,aQ ht2 rfl,aQ ht2 rfl,agH⟩;rw[<- hW];exact(heap_alloc_old _ _ (aO hz1)).trans hz1
theorem FL {w:World} {R:Rp} {ts:bG} (hI:eP w R ts):bY ((fQ ts:Nat):Int):=by
 cases ts with
 |nil=>exact DT
 |cons t r=>have:=(hI.tsl t agJ).1;show bY (t.line:Int);unfold bY;omega
theorem Ja {br bs k:Nat} {w w':World} {o:Obj} (h:Fr br bs w w') (hk:w.heap[k]? =some o) (h1:k≠br) (h2:k≠bs):w'.heap[k]? =some o:=(h.block k (aO hk) h1 h2).trans hk
theorem aw1:(Tryz.prog.info? 74).map (λi=>(i.zero,i.size,i.bytes))=some (some (.agg Eb),11,176):=agG
theorem aQ7: ∃i0,Tryz.prog.info? 74=some i0∧i0.zero=some (.agg Eb)∧i0.size=11∧i0.bytes=176:=info_parts aw1
theorem ai2 (x:bQ): ∀u∈bQ.f x,u.oneCell'=true:=by
 intro u hu;simp[bQ.f]at hu;rcases hu with rfl|rfl|rfl|rfl|rfl|rfl|rfl|rfl|rfl|rfl|rfl <;> rfl
theorem xD {B:Nat} {w w':World} {g:Option Nat} (h:w.grownBy w' g) (hg: ∀k,g=some k->B<=k) (hB:B<=w.heap.size):Below B w w':=
 ⟨h.os,h.tape,h.output,h.size,λk hk=>h.block k agH (λe=>by have:=hg k e.symm;omega)⟩
theorem Me {w w':World} {R:Rp} {rest:bG} {g:Option Nat} (h:eP w R rest) (hg:w.grownBy w' g) (h0: ∀k,g=some k->R.B0<=k∧k≠R.br):eP w' R rest:=by
 obtain⟨pos,k1,k2,k3⟩:=h.blk;exact⟨⟨pos,k1,k2,(hg.block _ h.lt (λe=>(h0 _ e.symm).2 rfl)).trans k3⟩,h.tok.below (xD hg (λk hk=>(h0 k hk).1) (aJ R.b0 (bH h.lt))),h.ok,h.tl⟩
theorem LD {br:Nat} {w w1 w2:World} (h:w.grownBy w1 (some br)) (hb:Below w.heap.size w1 w2):w.grownBy w2 (some br):=
 ⟨hb.os.trans h.os,hb.tape.trans h.tape,hb.output.trans h.output,aJ h.size hb.size,λk hk hn=>(hb.block k hk).trans (h.block k hk hn)⟩
def EN (R:Rp) (ts:bG) (y:Sx) (r:bG):Prop:= ∀w,eP w R ts->Calls Tryz.prog 151 #[.pointer (some ⟨R.br,0,none⟩)] w (aI8 R w y r)
def wE (R:Rp) (ts:bG) (b:aZ) (r:bG):Prop:= ∀w,eP w R ts->Calls Tryz.prog 130 #[.pointer (some ⟨R.br,0,none⟩)] w (bo1 R w (.ok b r))
set_option maxHeartbeats 4000000
theorem aJ5 (R:Rp) (bs B:Nat) (r q:bG) (x:E) (h:dF) (s:Sl) (w:World) (hp:Pm R bs B w ⟨h,.nil,.nil,s⟩ r) (hn:isName r=true) (h1:at' [91] r.tail=false) (h5:at' [61] r.tail=true) (hx:Ez r.tail.tail x q) (h4:at' [59] q=true):
 Calls Tryz.prog 161 #[.pointer (some ⟨R.br,0,none⟩),.pointer (some ⟨bs,0,none⟩)] w (Vb R bs B w (.ok ⟨dF.ex {h with nm:=tx (bM r)} x,.nil,.nil⟩ q.tail)):=by
 have HP:=ah hp;have yx:aj ((tx (bM r)).size<=maxLen):=ah (yJ (yO hp.rd.ts hn));have HC:=ah (av7 R hx);clear hp hx;go_enter Tryz.func161,Tryz.ntmps161;go_wp2_with fail;refine(vR R _ _ hn HP.o.rd).mono ?_;rintro e w1 ⟨rfl,h2,h3⟩;have lZ:=ah (HP.o.then h2 h3);have HF:=ah (Fr.uQ (br:=R.br) (bs:=bs) h3);clear h2 h3 HP;have c2:=lZ.o.cell (j:=2) rfl;have f2:=lZ.o.free 2;go_upto_region 3 with fail;generalize hW:World.setCell w1 _ _=W;have jO:aj (Pm R bs B W ⟨{h with nm:=tx (bM r)},.nil,.nil,s⟩ r.tail):=ah aeh;have Bn:aj (Fr R.br bs w W):=ah adz;clear hW c2 f2 lZ HF;go_wp2_with fail;refine(pQ R _ _ ⟨#[91]⟩ rfl h1 jO.o.rd).mono ?_;rintro e w0 ⟨rfl,h2⟩;have uY:=ah (jO.o.below h2);have HF6:=ah (Bn.o.trans (Fr.uQ (jL h2)));clear h2 jO Bn;go_wp2_with fail;refine(kX R _ _ ⟨#[61]⟩ rfl h5 uY.o.rd).mono ?_;rintro e w7 ⟨rfl,h2,h3⟩;have Dq:=ah (uY.o.then h2 h3);have HF7:=ah (HF6.o.trans (Fr.uQ h3));clear h2 h3 uY HF6;go_wp2_with fail;refine(HC.o _ Dq.o.rd).mono ?_;rintro e w3 ⟨v,rfl,hv,h2,h3⟩;have ql:=ah (Dq.o.then h2 h3);have Bo:=ah (HF7.o.trans (Fr.uQ h3));have HV:=ah (hv.mono Dq.o.sz);clear h2 h3 hv Dq HF7;obtain⟨ao,cap,rfl,hok,hst⟩:=HV.o;have HE:=ah (aI hok hst);clear hok hst HV;have c5:=ql.o.cell (j:=5) rfl;have c6:=ql.o.cell (j:=6) rfl;have c7:=ql.o.cell (j:=7) rfl;have c8:=ql.o.cell (j:=8) rfl;have f5:=ql.o.free 5;have f6:=ql.o.free 6;have f7:=ql.o.free 7;have f8:=ql.o.free 8;unfold exV;go_upto_region 13 with fail;generalize hW:World.setCell (World.setCell (World.setCell (World.setCell w3 _ _) _ _) _ _) _ _=W5;have PO:aj (Pm R bs B W5 ⟨dF.ex {h with nm:=tx (bM r)} x,.nil,.nil,{s with fT:=ao,eB:=cap}⟩ q):=ah (by rw[<- hW];exact ql.o.ex x ao cap HE.o.1 HE.o.2);have HF5:aj (Fr R.br bs w W5):=ah (by rw[<- hW];exact(((Bo.o.set _ _ (.inl rfl)).set _ _ (.inl rfl)).set _ _ (.inl rfl)).set _ _ (.inl rfl));clear hW c5 c6 c7 c8 f5 f6 f7 f8 ql Bo HE;go_wp2_with fail;refine(kX R _ _ ⟨#[59]⟩ rfl h4 PO.o.rd).mono ?_;rintro e w3 ⟨rfl,h2,h3⟩;have ql:=ah (PO.o.then h2 h3);have Bo:=ah (HF5.o.trans (Fr.uQ h3));clear h2 h3;go_wp2_with fail;go_ret;exact RO (y:=⟨dF.ex {h with nm:=tx (bM r)} x,.nil,.nil⟩) ql.o Bo.o
theorem ag4 (R:Rp) (bs B:Nat) (r q:bG) (b:aZ) (uS:aj (wE R r b q)) (h:dF) (s:Sl) (w:World) (hp:Pm R bs B w ⟨h,.nil,.nil,s⟩ r):
 Calls Tryz.prog 175 #[.pointer (some ⟨R.br,0,none⟩),.pointer (some ⟨bs,0,none⟩)] w (Vb R bs B w (.ok ⟨h,b,.nil⟩ q)):=by
 have HP:=ah hp;have HC:=ah (uS.o w hp.rd);clear hp uS;go_enter Tryz.func175,Tryz.ntmps175;go_wp2_with fail;refine HC.o.mono ?_;rintro e w1 ⟨⟨ao,cap,rfl,hl,hst⟩,h2,h3⟩;have lZ:=ah (HP.o.then h2 h3);have HF:=ah (Fr.uQ (bs:=bs) h3);have HL:aj (b.len<=maxLen):=ah (aJ hl aeP);have HS:=ah (hst.mono HP.o.sz);clear h2 h3 HP hl hst;have c9:=lZ.o.cell (j:=9) rfl;have f9:=lZ.o.free 9;go_wp2_with fail;go_ret;exact RO (y:=⟨h,b,.nil⟩) (lZ.o.body b ao cap HL.o HS.o) (HF.o.set _ _ (.inl rfl))
theorem OQ (R:Rp) (bs B:Nat) (r q:bG) (b:aZ) (hn:isName r=true) (uS:aj (wE R r.tail b q)) (h:dF) (s:Sl) (w:World) (hp:Pm R bs B w ⟨h,.nil,.nil,s⟩ r):
 Calls Tryz.prog 174 #[.pointer (some ⟨R.br,0,none⟩),.pointer (some ⟨bs,0,none⟩)] w (Vb R bs B w (.ok ⟨{h with nm:=tx (bM r)},b,.nil⟩ q)):=by
 have HP:=ah hp;have yx:aj ((tx (bM r)).size<=maxLen):=ah (yJ (yO HP.o.rd.ts hn));have HC:=ah (ag4 R bs B r.tail q b uS {h with nm:=tx (bM r)} s);clear hp uS;go_enter Tryz.func174,Tryz.ntmps174;go_wp2_with fail;refine(vR R _ _ hn HP.o.rd).mono ?_;rintro e w1 ⟨rfl,h2,h3⟩;have lZ:=ah (HP.o.then h2 h3);have HF:=ah (Fr.uQ (br:=R.br) (bs:=bs) h3);clear h2 h3 HP;have c2:=lZ.o.cell (j:=2) rfl;have f2:=lZ.o.free 2;go_upto_region 3 with fail;generalize hW:World.setCell w1 _ _=W;have jO:aj (Pm R bs B W ⟨{h with nm:=tx (bM r)},.nil,.nil,s⟩ r.tail):=ah aeh;have Bn:aj (Fr R.br bs w W):=ah adz;clear hW c2 f2 lZ HF;go_wp2_with fail;refine(HC.o _ jO.o).mono ?_;rintro e w3 ⟨rfl,⟨x,h2⟩,h3⟩;have ql:=ah h2;have Bo:=ah (Bn.o.trans h3);clear h2 h3;go_wp2_with fail;go_ret;exact RO (y:=⟨{h with nm:=tx (bM r)},b,.nil⟩) ql.o Bo.o
theorem az0 (R:Rp) (ts q:bG) (x:E) (h1:nextK ts=1) (h2:at' [91] ts.tail=false) (h5:at' [61] ts.tail=true) (hx:Ez ts.tail.tail x q) (h4:at' [59] q=true):
 EN R ts ⟨dF.ex {hd 1 ((fQ ts:Nat):Int)with nm:=tx (bM ts)} x,.nil,.nil⟩ q.tail:=by
 intro w hI;have hn:isName ts=true:=by unfold isName;rw[h1];rfl
 have hk:=h1;clear h1;have Te:=ah (λgt W hP=>aJ5 R (gt+1) (gt+2) ts q x (hd 1 ((fQ ts:Nat):Int)) zS W hP hn h2 h5 hx h4);obtain⟨Y,HY⟩: ∃Y:Sx,aj ((⟨dF.ex {hd 1 ((fQ ts:Nat):Int)with nm:=tx (bM ts)} x,.nil,.nil⟩:Sx)=Y):=⟨_,ah rfl⟩;rw[HY.o]at Te⊢;clear h2 h5 hx h4 HY hn;have HI:=ah hI;have HL:=ah (FL hI);have hlt:=hI.lt;go_enter Tryz.func151,Tryz.ntmps151;go_upto_region 1 with fail;generalize hW:World.alloc w _=W0;have HB0:aj (Below w.heap.size w W0):=ah aeW;have HZ0:aj (W0.heap[w.heap.size]? =some (.cells Eb 74 (0,0))):=ah acA;have HN:=ah (rC R ts W0 (HI.o.below HB0.o));unfold yg at HN;rw[hk]at HN;clear hW hI hk;go_wp2_with fail;refine HN.o.mono ?_;rintro e w1 ⟨rfl,h2⟩;have HB1:=ah (HB0.o.trans (h2.mono HB0.o.size));have HZ1:=jV h2 HZ0;clear h2 HN HB0 HZ0;go_upto_region 3 with fail;obtain⟨gt,hg⟩: ∃g,w1.heap.size=g:=⟨_,rfl⟩;rw[hg];generalize hW:World.alloc (World.alloc w1 _) _=W2;have jO:=ah (RH HI.o HB1.o HZ1.o HL.o gt hg W2 hW);have e0:=jO.o.2.2.2.1;have e1:=jO.o.2.2.2.2.1;have kJ:aj (R.br<w.heap.size∧w.heap.size<gt):=ah ⟨hlt,jO.o.2.2.2.2.2⟩;clear hW hg HB1 HZ1;have f0:=jO.o.1.free 0;have c0:=jO.o.1.cell (j:=0) rfl;go_upto_region 6 with fail;generalize hW:World.setCell W2 _ _=W3;have ql:aj (Pm R (gt+1) (gt+2) W3 ⟨hd 1 ((fQ ts:Nat):Int),.nil,.nil,zS⟩ ts):=ah (by rw[<- hW];exact jO.o.1.op 1 aeO);have Bo:aj (Fr R.br (gt+1) W2 W3):=ah abM;clear hW f0 c0 e0 e1;have HC:=ah (Te.o gt W3 ql.o);clear Te;go_wp2_with fail;refine HC.o.mono ?_;rintro e w4 ⟨rfl,⟨s,h2⟩,h3⟩;have wP:=ah h2;have Pq:=ah (Bo.o.trans h3);clear h2 h3;have za:=ah (Ja Pq.o jO.o.2.2.1 afa afa);obtain⟨⟨y0,y1,y2,y3,y4,y5,y6,y7,y8,y9,jD⟩,fz⟩:=z11 za.o;have z0:=fz 0;have z1:=fz 1;have z2:=fz 2;have z3:=fz 3;have z4:=fz 4;have z5:=fz 5;have z6:=fz 6;have z7:=fz 7;have z8:=fz 8;have z9:=fz 9;have fV:=fz 10;obtain⟨d0,d1,d2,d3,d4,d5,d6,d7,d8,d9,sN⟩:=Ru wP.o;clear fz;go_wp2_with fail;exact bodyPost_ret (v:= .tuple #[iE Y.h Y.b Y.e s,.bool true]) aaA rfl (YP wP.o (Pq.o.gr jO.o.2.1 afa) kJ.o.1 afa)
theorem av5 (w:World):(binOp .eql 225 (.func (.func 174) #[] #[]) .nilFunc).run Tryz.prog w= .ok (.bool false) w:=agG
theorem ai1 (R:Rp) (ts q:bG) (b:aZ) (h1:nextK ts=3) (h2:RF (bM ts)=4) (hn:isName ts.tail=true) (uS:aj (wE R ts.tail.tail b q)):
 EN R ts ⟨{hd 4 ((fQ ts:Nat):Int)with nm:=tx (bM ts.tail)},b,.nil⟩ q:=by
 intro w hI;obtain⟨t0,r0,hr⟩: ∃t r,ts=t::r:=by
  cases ts with
  |nil=>exact absurd h1 (by simp[nextK])
  |cons t r=>exact⟨t,r,rfl⟩
 have NP:=ah hr;have HRE:aj (∀w,Calls Tryz.prog 162 #[.string (tx (bM ts))] w λe w'=>e= .returned (.tuple #[.int .i64 4,.func (.func 174) #[] #[]])∧w=w'):=ah (λw=>by have:=ag6 (tx (bM ts)) (l:=bM ts) rfl w;rw[h2]at this;exact this);have hk:=h1;have Te:=ah (λgt W hP=>OQ R (gt+1) (gt+2) ts.tail q b hn uS (hd 4 ((fQ ts:Nat):Int)) zS W hP);obtain⟨Y,HY⟩: ∃Y:Sx,aj ((⟨{hd 4 ((fQ ts:Nat):Int)with nm:=tx (bM ts.tail)},b,.nil⟩:Sx)=Y):=⟨_,ah rfl⟩;rw[HY.o]at Te⊢;clear h1 h2 hr HY hn uS;have hnf:=av5;have HI:=ah hI;have HL:=ah (FL hI);have hlt:=hI.lt;go_enter Tryz.func151,Tryz.ntmps151;go_upto_region 1 with fail;generalize hW:World.alloc w _=W0;have HB0:aj (Below w.heap.size w W0):=ah aeW;have HZ0:aj (W0.heap[w.heap.size]? =some (.cells Eb 74 (0,0))):=ah acA;have HN:=ah (rC R ts W0 (HI.o.below HB0.o));unfold yg at HN;rw[hk]at HN;clear hW hI hk;go_wp2_with fail;refine HN.o.mono ?_;rintro e w1 ⟨rfl,h2⟩;have HB1:=ah (HB0.o.trans (h2.mono HB0.o.size));have HZ1:=jV h2 HZ0;clear h2 HN HB0 HZ0;go_upto_region 3 with fail;obtain⟨gt,hg⟩: ∃g,w1.heap.size=g:=⟨_,rfl⟩;rw[hg];generalize hW:World.alloc (World.alloc w1 _) _=W2;have jO:=ah (RH HI.o HB1.o HZ1.o HL.o gt hg W2 hW);have e0:=jO.o.2.2.2.1;have e1:=jO.o.2.2.2.2.1;have kJ:aj (R.br<w.heap.size∧w.heap.size<gt):=ah ⟨hlt,jO.o.2.2.2.2.2⟩;clear hW hg HB1 HZ1;go_wp2_with fail;refine(HRE.o _).mono ?_;rintro e w3 ⟨rfl,rfl⟩;have f0:=jO.o.1.free 0;have c0:=jO.o.1.cell (j:=0) rfl;go_upto_region 13 with fail;generalize hW:World.setCell W2 _ _=W3;have ql:aj (Pm R (gt+1) (gt+2) W3 ⟨hd 4 ((fQ ts:Nat):Int),.nil,.nil,zS⟩ ts):=ah (by rw[<- hW];exact jO.o.1.op 4 aeO);have Bn:aj (Fr R.br (gt+1) W2 W3):=ah abM;obtain⟨pos,hp,q0,q1,fq,HX⟩:=ql.o.rd.open;clear hW f0 c0 e0 e1 hnf HRE;go_upto_region 14 with fail;generalize hW:World.setCell W3 _ _=W4;have HQ:aj (eP W4 R ts.tail∧W3.grownBy W4 (some R.br)):=ah acZ;have wP:=ah (ql.o.then HQ.o.1 HQ.o.2);have Bo:=ah (Bn.o.trans (Fr.uQ HQ.o.2));clear hW q0 q1 fq HX ql HQ Bn;go_wp2_with fail;refine(Te.o gt _ wP.o).mono ?_;rintro e w4 ⟨rfl,⟨s,h2⟩,h3⟩;have wP:=ah h2;have Pq:=ah (Bo.o.trans h3);clear h2 h3;have za:=ah (Ja Pq.o jO.o.2.2.1 afa afa);obtain⟨⟨y0,y1,y2,y3,y4,y5,y6,y7,y8,y9,jD⟩,fz⟩:=z11 za.o;have z0:=fz 0;have z1:=fz 1;have z2:=fz 2;have z3:=fz 3;have z4:=fz 4;have z5:=fz 5;have z6:=fz 6;have z7:=fz 7;have z8:=fz 8;have z9:=fz 9;have fV:=fz 10;obtain⟨d0,d1,d2,d3,d4,d5,d6,d7,d8,d9,sN⟩:=Ru wP.o;clear fz;go_wp2_with fail;exact bodyPost_ret (v:= .tuple #[iE Y.h Y.b Y.e s,.bool true]) aaA rfl (YP wP.o (Pq.o.gr jO.o.2.1 afa) kJ.o.1 afa)
inductive Lz (S:bG->Sx->bG->Prop):bG->List Sx->bG->Prop
 |nil {ts:bG} :at' [125] ts=true->Lz S ts [] ts.tail
 |cons {ts q r:bG} {y:Sx} {m:List Sx} :at' [125] ts=false->S ts y q->Lz S q m r->Lz S ts (y::m) r
def BK:List Sx->aZ
 | []=> .nil
 |y::m=> .cons y.h y.b y.e (BK m)
theorem YQ: ∀l:List bQ,fM l=BK (l.map (λx=>⟨x.h,x.b,x.e⟩))
 | []=>rfl
 |x::r=>by show aZ.cons x.h x.b x.e (fM r)=aZ.cons x.h x.b x.e (BK _);rw[YQ r]
theorem K8 (R:Rp) (S:bG->Sx->bG->Prop) (PW:aj (∀q y r,S q y r->EN R q y r)) (ts r:bG) (M:List Sx) (h1:at' [123] ts=true) (hM:Lz S ts.tail M r) (hl:M.length<=4096):wE R ts (BK M) r:=by
 intro w hI;have HI:=ah hI;have Zy:=ah HI.o.lt;have HM:=ah (aI hM hl);clear hI hM hl;obtain⟨i0,hi,hz0,hz1,hz2⟩:=aQ7;have iA:=ah (aI hi (aI hz0 (aI hz1 hz2)));clear hi hz0 hz1 hz2;go_enter Tryz.func130,Tryz.ntmps130;go_wp2_with fail;refine(kX R _ _ ⟨#[123]⟩ rfl h1 HI.o).mono ?_;rintro e w1 ⟨rfl,h2,h3⟩;have HK:=ah (aI h2 h3);clear h2 h3 HI h1;go_wp2_with fail;go_loopg [4] M.length (λgk v4 wr=> ∃(l:List bQ) (m:List Sx) (rest:bG),gk=m.length∧Lz S rest m r∧l.map (λx=>(⟨x.h,x.b,x.e⟩:Sx))++m=M∧KQ w.heap.size wr v4 l∧(∀x∈l,xg x.h x.b x.e)∧eP wr R rest∧w.grownBy wr (some R.br))
 case atStart=>exact⟨[],M,_,rfl,HM.o.1,rfl,Grow.nil _ _ _ _ _ _,agJ,HK.o.1,HK.o.2⟩
 case round=>
  obtain⟨l,m,rest,rfl,hz,hlm,hg,hok,hr,hgr⟩:=hrel;have KV:=ah hlm;have HL:aj (l.length+m.length<=4096):=ah (by have:=congrArg List.length hlm;simp only[aA,gH]at this;have:=HM.o.2;omega);have HG:=ah hg;have kK:=ah hok;have HR:=ah hr;have rQ:=ah hgr;clear hlm hg hok hr hgr HK;cases hz with
  | @nil rest h4=>
    go_wp2_with fail;refine(kX R _ _ ⟨#[125]⟩ rfl h4 HR.o).mono ?_;rintro e w2 ⟨rfl,h2,h3⟩;have HG2:=ah (HG.o.next (AL h3 Zy.o));have HR2:=ah h2;have Pw:=ah (jC rQ.o h3);clear h2 h3;go_wp2_with fail
    go_ret2
    have hgs:KQ w.heap.size w2 u4 l:=HG2.o;obtain⟨ao,cap,e,hst⟩:=hgs.says kK.o;have hq:fM l=BK M:=by rw[YQ,<- KV.o,List.append_nil]
    rw[<- hq];exact⟨⟨ao,cap,ahf,by rw[qh];have:=HL.o;omega,hst⟩,HR2.o,Pw.o⟩
  | @cons _ q _ y m h4 hs hzz=>
    have HC:=ah (PW.o _ _ _ hs);have NW:=ah hzz;clear hs hzz;go_wp2_with fail;refine(pQ R _ _ ⟨#[125]⟩ rfl h4 HR.o).mono ?_;rintro e w2 ⟨rfl,h2⟩;have HG2:=ah (HG.o.next (bS h2));have HR2:=ah (HR.o.below h2);have Pw:=ah (jC rQ.o (jL h2));clear h2 HG HR rQ;go_wp2_with fail;refine(HC.o _ HR2.o).mono ?_;rintro e w3 ⟨s,rfl,⟨hok,hst⟩,h2,h3⟩;clear HC;have HYX:aj (y=⟨y.h,y.b,y.e⟩):=ah rfl;obtain⟨x,EG⟩: ∃x:bQ,aj (x=⟨y.h,y.b,y.e,s⟩):=⟨_,ah rfl⟩;have hok:xg x.h x.b x.e:=by rw[EG.o];exact hok
    have hst:ig w2.heap.size w3 (bQ.I x):=by rw[EG.o];exact hst
    rw[show iE y.h y.b y.e s=iE x.h x.b x.e x.s by rw[EG.o]];have Bp:=ah (HG2.o.next (AL h3 Zy.o));have HR3:=ah h2;have Px:=ah (jC Pw.o h3);have Cz:=ah hst;have HOX:=ah hok;have sI:aj (w2.heap.size<=w3.heap.size∧w.heap.size<=w2.heap.size):=ah ⟨h3.size,Pw.o.size⟩;have rH:=ah HG2.o.lt;clear h2 h3 hst hok HG2 HR2 Pw;unfold iE;go_upto_region 6 with fail;generalize hW:World.alloc w3 _=W4;obtain⟨gs,hg,-,-,dR,-⟩:=qD hW;have NA:aj (KQ w.heap.size W4 u4 l):=ah (by rw[<- hW];exact Bp.o.next (bS (ak _ _)));have HR4:aj (eP W4 R q):=ah (by rw[<- hW];exact Ai HR3.o _);have aC7:aj (w.grownBy W4 (some R.br)):=ah (by rw[<- hW];exact Af Px.o _);have oH:aj (ig w2.heap.size W4 (bQ.I x)):=ah (by rw[<- hW];exact Cz.o.next (bS (ak _ _)));rw[hg];clear hW hg Bp HR3 Px Cz;obtain⟨d0,d1,d2,d3,d4,d5,d6,d7,d8,d9,sN⟩:(W4.cell? ⟨gs,0,none⟩=some (.int .i64 x.h.op)∧W4.cell? ⟨gs,1,none⟩=some (.int .i64 x.h.line)∧W4.cell? ⟨gs,2,none⟩=some (.string x.h.nm)∧W4.cell? ⟨gs,3,none⟩=some (.string x.h.arg)∧W4.cell? ⟨gs,4,none⟩=some (.slice x.s.gU x.h.idx.len x.s.gy)∧W4.cell? ⟨gs,5,none⟩=some (.int .i64 x.h.dP)∧W4.cell? ⟨gs,6,none⟩=some (.int .i64 x.h.xn)∧W4.cell? ⟨gs,7,none⟩=some (.string x.h.dO)∧W4.cell? ⟨gs,8,none⟩=some (.slice x.s.fT x.h.bJ.len x.s.eB)∧W4.cell? ⟨gs,9,none⟩=some (.slice x.s.dB x.b.len x.s.cu)∧W4.cell? ⟨gs,10,none⟩=some (.slice x.s.iD x.e.len x.s.gu)):=⟨aQ dR.o rfl,aQ dR.o rfl,aQ dR.o rfl,aQ dR.o rfl,aQ dR.o rfl,aQ dR.o rfl,aQ dR.o rfl,aQ dR.o rfl,aQ dR.o rfl,aQ dR.o rfl,aQ dR.o rfl⟩;have nX:=ah (NA.o.next (bS (ak W4 (.cells (bQ.f x).toArray 74))));have iX:=ah (gP (heap_alloc_new W4 (.cells (bQ.f x).toArray 74)));have HSW:aj (w.heap.size<=W4.heap.size):=ah aC7.o.size;obtain⟨hi,hz0,hz1,hz2⟩:=iA.o;have hbs:w.heap.size<=W4.heap.size+1:=Nat.le_succ_of_le HSW.o;have hkl:l.length+1<=maxLen:=by have:=HL.o;simp only[aD]at this;unfold maxLen;omega
    have DR:(l.length+1)*176<=140737488355328:=by have:=HL.o;simp only[aD]at this;omega
    go_wp2_with (at_builtin;refine wpList_append_lies _ rfl _ _ 57 rfl w.heap.size 74 i0 _ 11 176 Tryz.underlying57 hi hz0 hz1 hz2 rfl agI _ _ _ rfl nX.o.own ⟨W4.heap.size,0,none⟩ 1 1 (bQ.f x) rfl rfl iX.o (ai2 _) agI hkl DR aeV _ rfl ?_);clear hi hz0 hz1 hz2 d0 d1 d2 d3 d4 d5 d6 d7 d8 d9 sN;intro g cap w5 hown hgr hmv hlt2;have uI:aj (oK w.heap.size u4.ownBlock (W4.alloc (.cells (bQ.f x).toArray 74)) (bQ.I x)):=ah (RI (oH.o.next (bS (ak _ _))) sI.o.2 (λk hk=>(rH.o k hk).2));have NC:=ah (nX.o.push uI.o rfl hown hgr afm);have kg:aj (Below w.heap.size (W4.alloc (.cells (bQ.f x).toArray 74)) w5):=ah (xD hgr (λk hk=>(rH.o k hk).1) aeV);have Jv:aj (eP w5 R q):=ah (Me (Ai HR4.o _) hgr (λk hk=>by have h1:=(rH.o k hk).1;have h2:=Zy.o;have h3:=R.b0;omega));have UO:aj (w.grownBy w5 (some R.br)):=ah (LD (Af aC7.o _) kg.o);have br2:aj (∀y∈l++[x],xg y.h y.b y.e):=ah (λy hy=>by
     rcases List.mem_append.1 hy with hy|hy
     ·exact kK.o y hy
     ·rw[List.mem_singleton.1 hy];exact HOX.o)
    clear hown hgr hmv hlt2 hbs hkl DR uI oH iX nX kg;go_wp2_with fail;go_roundg m.length
    case measure=>simp
    case rel=>exact⟨l++[x],m,q,rfl,NW.o,by rw[<- KV.o,EG.o];simp,NC.o,br2.o,Jv.o,UO.o⟩
end Go.Proofs.YtdoplekppjkkpaaGreatDoor
end
