/- Plain functions of the parser: what a list of tokens says, and where it stops to fit. No program in sight. And what hangs on it. -/
import Derived.Test.YtmildapbbcbbhaaGreatDoorGMB
import Derived.Lib.ParseIntB
import Derived.Deep.CutBlock
import Derived.Lib.AtoiErrMem
import Derived.Test.YtmildapbbcbbhaaGreatDoorShelf
import Derived.Deep.LoopGhost
set_option linter.unusedSimpArgs false
set_option linter.unusedVariables false
set_option maxHeartbeats 40000000
set_option maxRecDepth 1000000
section
namespace Go.Proofs.YtmildapbbcbbhaaGreatDoor.Pz
open Go.RowKit Md Tk
abbrev bC:=List Tok
inductive ow (α:Type) where
 |ok (a:α) (rest:bC)
 |no (rest:bC)
structure E where
 op:Int
 n:Int
 nm:ByteArray
 kids:bJ
def tx (l:List UInt8):ByteArray:=⟨l.toArray⟩
def nextK:bC->Nat
 | []=>0
 |t::_=>t.kind
def bK:bC->List UInt8
 | []=>[]
 |t::_=>t.text
def fP:bC->Nat
 | []=>0
 |t::_=>t.line
def at' (x:List UInt8) (ts:bC):Bool:=(nextK ts==3||nextK ts==4)&&bK ts==x
def isName (ts:bC):Bool:=nextK ts==1
def isNum (ts:bC):Bool:=nextK ts==2
def wD (x:List UInt8):Int×Int:=
 if x== [124,124]then(18,1)else if x== [38,38]then(17,2)else if x== [61,61]then(11,3)else if x== [33,61]then(12,3)else if x== [60]then(13,3)else if x== [60,61]then(14,3)
 else if x== [62]then(15,3)else if x== [62,61]then(16,3)else if x== [43]then(6,4)else if x== [45]then(7,4)else if x== [42]then(8,5)else if x== [47]then(9,5)else if x== [37]then(10,5)else(0,0)
def opAt (lv:Int) (ts:bC):Int:=if nextK ts==4&&(wD (bK ts)).2==lv then(wD (bK ts)).1 else 0
def mk1 (op:Int) (x:E):E:=⟨op,0,⟨#[]⟩,.cons x.op x.n x.nm x.kids .nil⟩
def mk2 (op:Int) (x y:E):E:=⟨op,0,⟨#[]⟩,.cons x.op x.n x.nm x.kids (.cons y.op y.n y.nm y.kids .nil)⟩
def TR (nm:ByteArray) (x:E):E:=⟨3,0,nm,.cons x.op x.n x.nm x.kids .nil⟩
def ow.map {α β:Type} (f:α->β):ow α->ow β
 | .ok a r=> .ok (f a) r
 | .no r=> .no r
def ow.close {α:Type} (x:List UInt8):ow α->ow α
 | .ok a r=>if at' x r then .ok a r.tail else .no r
 | .no r=> .no r
inductive M where
 |bin (lv:Nat)
 |lp (lv:Nat) (l:E)
 |un
 |pr
def pe:Nat->M->bC->ow E
 |0,_,ts=> .no ts
 |f+1,.bin lv,ts=>if 5<lv then pe f .un ts else
  match pe f (.bin (lv+1)) ts with
  | .no r=> .no r
  | .ok l r=>pe f (.lp lv l) r
 |f+1,.lp lv l,ts=>if opAt lv ts==0 then .ok l ts else
  match pe f (.bin (lv+1)) ts.tail with
  | .no r=> .no r
  | .ok x r=>if lv=3 then .ok (mk2 (opAt lv ts) l x) r else pe f (.lp lv (mk2 (opAt lv ts) l x)) r
 |f+1,.un,ts=>if at' [45] ts then(pe f .un ts.tail).map (mk1 4)else if at' [33] ts then(pe f .un ts.tail).map (mk1 5)else pe f .pr ts
 |f+1,.pr,ts=>if isNum ts then .ok ⟨1,(val (bK ts):Nat),⟨#[]⟩,.nil⟩ ts.tail
  else if isName ts then
   (if at' [91] ts.tail then((pe f (.bin 1) ts.tail.tail).close [93]).map (λx=>⟨3,0,tx (bK ts),.cons x.op x.n x.nm x.kids .nil⟩)else .ok ⟨2,0,tx (bK ts),.nil⟩ ts.tail)
  else if at' [40] ts then(pe f (.bin 1) ts.tail).close [41]else .no ts
def expr (ts:bC):ow E:=pe (9*ts.length+9) (.bin 1) ts
def R3 (x:List UInt8):Int:=
 if x== [105,102]then 2 else if x== [119,104,105,108,101]then 3 else if x== [108,111,99,107]then 4 else if x== [114,101,97,100]then 5 else if x== [119,114,105,116,101]then 6
 else if x== [116,114,97,110,115,97,99,116,105,111,110]then 7 else if x== [97,116,111,109,105,99]then 8 else if x== [119,97,105,116]then 9 else if x== [110,111,116,105,102,121]then 10
 else if x== [110,111,116,105,102,121,97,108,108]then 11 else if x== [115,112,97,119,110]then 12 else if x== [106,111,105,110]then 13 else if x== [115,101,116]then 14 else if x== [103,101,116]then 15 else 0
def hd (op line:Int):dD:=⟨op,line,⟨#[]⟩,⟨#[]⟩,.nil,0,0,⟨#[]⟩,.nil⟩
def dD.ex (h:dD) (x:E):dD:= {h with dN:=x.op,xn:=x.n,dJ:=x.nm,bG:=x.kids}
def one (h:dD) (b e:aY):aY:= .cons h b e .nil
def app:aY->aY->aY
 | .nil,l=>l
 | .cons h b e r,l=> .cons h b e (app r l)
def ow.bind {α β:Type} (r:ow α) (f:α->bC->ow β):ow β:=
 match r with
 | .ok a r=>f a r
 | .no r=> .no r
def Ig (ts:bC):ow ByteArray:=if isName ts then .ok (tx (bK ts)) ts.tail else .no ts
def need (x:List UInt8) (ts:bC):ow Unit:=if at' x ts then .ok () ts.tail else .no ts
def asg (h:dD) (ts:bC):ow aY:=
 (if at' [91] ts then((expr ts.tail).close [93]).map (λx=> {h with idx:= .cons x.op x.n x.nm x.kids .nil})else .ok h ts).bind λh ts=>
  (need [61] ts).bind λ_ ts=>(((expr ts).map λx=>one (dD.ex h x) .nil .nil).close [59])
def ps:Nat->Bool->bC->ow aY
 |0,_,ts=> .no ts
 |f+1,false,ts=>if at' [125] ts then .ok .nil ts.tail else
  match ps f true ts with
  | .no r=> .no r
  | .ok s r=>(ps f false r).map (app s)
 |f+1,true,ts=>
  let blk:=λ(ts:bC)=>if at' [123] ts then ps f false ts.tail else .no ts
  if nextK ts==1 then asg {hd 1 (fP ts)with nm:=tx (bK ts)} ts.tail
  else if nextK ts==3 then
   let op:=R3 (bK ts)
   let h:=hd op (fP ts)
   if op==0 then .no ts
   else if op==2 then(expr ts.tail).bind λx r=>(blk r).bind λb r=>if at' [101,108,115,101] r then(blk r.tail).map (one (dD.ex h x) b)else .ok (one (dD.ex h x) b .nil) r
   else if op==3 then(expr ts.tail).bind λx r=>(blk r).map λb=>one (dD.ex h x) b .nil
   else if op==7||op==8 then(blk ts.tail).map λb=>one h b .nil
   else(Ig ts.tail).bind λs r=>
    if op==4||op==5||op==6 then(blk r).map λb=>one {h with nm:=s} b .nil
    else if op==14 then((expr r).map λx=>one (dD.ex {h with nm:=s} x) .nil .nil).close [59]
    else if op==15 then((Ig r).map λa=>one {h with nm:=s,arg:=a} .nil .nil).close [59]
    else(need [59] r).map λ_=>one {h with nm:=s} .nil .nil
  else .no ts
def blk (f:Nat) (ts:bC):ow aY:=if at' [123] ts then ps f false ts.tail else .no ts
def qU (x:List UInt8):Int:=
 if x== [118,97,114]then 1 else if x== [118,111,108,97,116,105,108,101]then 2 else if x== [109,117,116,101,120]then 3 else if x== [114,119,108,111,99,107]then 4 else if x== [99,111,110,100]then 5 else if x== [102,117,116,117,114,101]then 6 else 0
def yF (d:De) (ts:bC):ow De:=
 if at' [91] ts then(if isNum ts.tail then(if val (bK ts.tail)==0 then .no ts.tail else(need [93] ts.tail.tail).map λ_=> {d with size:=(val (bK ts.tail):Nat)})else .no ts.tail)else .ok d ts
def zC (d:De) (ts:bC):ow De:=
 if at' [61] ts then
  (if at' [45] ts.tail then(if isNum ts.tail.tail then .ok {d with init:= -(val (bK ts.tail.tail):Nat)} ts.tail.tail.tail else .no ts.tail.tail)
   else if isNum ts.tail then .ok {d with init:=(val (bK ts.tail):Nat)} ts.tail.tail else .no ts.tail)
 else .ok d ts
def aT8 (ts:bC):ow De:=
 let k:=qU (bK ts)
 ((Ig ts.tail).bind λs r=>
   let d:De:=⟨k,fP ts,s,0,0,⟨#[]⟩⟩
   if k==1 then(yF d r).bind zC
   else if k==2 then zC d r
   else if k==5 then(Ig r).map λo=> {d with on:=o}
   else .ok d r).close [59]
def an6:Nat->bC->ow (List ByteArray)
 |0,ts=> .no ts
 |f+1,ts=>(Ig ts).bind λs r=>if at' [44] r then(an6 f r.tail).map (s:: ·)else .ok [s] r
def bw8 (ts:bC):ow Th:=
 (Ig ts.tail).bind λs r=>(need [40] r).bind λ_ r=>
  (if at' [41] r then .ok [] r.tail else(an6 (r.length+1) r).close [41]).bind λl r=>
   (blk (3*r.length+3) r).map λb=>⟨s,fP ts,l,b⟩
def isDecl (ts:bC):Bool:=nextK ts==3&& !(qU (bK ts)==0)
def X9:Nat->bC->ow (List De)
 |0,ts=> .ok [] ts
 |f+1,ts=>if isDecl ts then(aT8 ts).bind λd r=>(X9 f r).map (d:: ·)else .ok [] ts
def ap3:Nat->bC->ow (List Th)
 |0,ts=> .ok [] ts
 |f+1,ts=>if at' [116,104,114,101,97,100] ts then(bw8 ts).bind λt r=>(ap3 f r).map (t:: ·)else .ok [] ts
def prog (ts:bC):ow Pr:=(X9 ts.length ts).bind λds r=>(ap3 r.length r).map λth=>⟨ds,th⟩
end Go.Proofs.YtmildapbbcbbhaaGreatDoor.Pz
end
section
namespace Go.Proofs.YtmildapbbcbbhaaGreatDoor.Pz
open Go.RowKit Md Tk
theorem WL {x:List UInt8} {ts:bC} (h:at' x ts=true): ∃t r,ts=t::r:=by
 cases ts with
 |nil=>exact absurd h (by simp[at',nextK])
 |cons t r=>exact⟨t,r,rfl⟩
end Go.Proofs.YtmildapbbcbbhaaGreatDoor.Pz
end
section
namespace Go.Proofs.YtmildapbbcbbhaaGreatDoor.Pz
open Go.RowKit Md Tk
def Ei (t:Tok):Prop:=(t.kind=1->jv t.text=true)∧(t.kind=2->(t.text.isEmpty=false∧t.text.all mG=true)∧yA t.text=true)∧(t.kind=3->uG t.text=true)∧t.kind<=4
theorem Km (p:UInt8->Bool): ∀l:List UInt8,(l.takeWhile p).all p=true
 | []=>rfl
 |c::r=>by
  rw[List.takeWhile_cons];by_cases h:p c=true
  ·rw[if_pos h,List.all_cons,h,Km p r];rfl
  ·rw[if_neg h];rfl
end Go.Proofs.YtmildapbbcbbhaaGreatDoor.Pz
end
section
namespace Go.Proofs.YtmildapbbcbbhaaGreatDoor.Pz
open Go.RowKit Md Tk
def Gh (ts:bC):Prop:= ∀t∈ts,Ei t
theorem Gh.tail {ts:bC} (h:Gh ts):Gh ts.tail:=λt ht=>h t (List.mem_of_mem_tail ht)
theorem xE {ts:bC} (h:Gh ts) (hn:isName ts=true):jv (bK ts)=true:=by
 cases ts with
 |nil=>exact absurd hn (by simp[isName,nextK])
 |cons t r=>exact(h t (by simp)).1 (by simpa[isName,nextK]using hn)
theorem YE {ts:bC} (h:Gh ts) (hn:isNum ts=true):((bK ts).isEmpty=false∧(bK ts).all mG=true)∧yA (bK ts)=true:=by
 cases ts with
 |nil=>exact absurd hn (by simp[isNum,nextK])
 |cons t r=>exact(h t (by simp)).2.1 (by simpa[isNum,nextK]using hn)
theorem Mv (l:List UInt8):(tx l).data.toList=l:=by simp[tx]
end Go.Proofs.YtmildapbbcbbhaaGreatDoor.Pz
end
section
namespace Go.Proofs.YtmildapbbcbbhaaGreatDoor.Pz
open Go.RowKit Md Tk
end Go.Proofs.YtmildapbbcbbhaaGreatDoor.Pz
end
section
namespace Go.Proofs.YtmildapbbcbbhaaGreatDoor.Pz
open Go.RowKit Md Tk
theorem XZ {ts:bC} (hT:Gh ts) (h:isNum ts=true):(val (bK ts):Int)<=9223372036854775807:=by
 have:=(YE hT h).2;unfold yA at this;have:=of_decide_eq_true this;omega
theorem ar4 (x:List UInt8):(qU x==0)=false->1<=qU x∧qU x<=6:=by
 intro h;unfold qU at h⊢;grind (splits:=40)
end Go.Proofs.YtmildapbbcbbhaaGreatDoor.Pz
end
section
namespace Go.Proofs.YtmildapbbcbbhaaGreatDoor.Pz
open Go.RowKit Md Tk
def yG (n:Nat) (c:UInt8):Nat:=10*n+(c.toNat -48)
theorem Ti: ∀(l:List UInt8) (a:Nat),a<=l.foldl yG a
 | [],a=>aB a
 |c::r,a=>aP (by unfold yG;omega) (Ti r (yG a c))
theorem TK {c:UInt8} (h:mG c=true):48<=c.toNat∧c.toNat<=57:=by
 unfold mG rG at h;rw[aJ]at h;have h1:=of_decide_eq_true h.1;have h2:=of_decide_eq_true h.2;omega
theorem ap4 {M:Nat} (hM:9223372036854775807<=M): ∀(l:List UInt8) (a:Nat),l.all mG=true->l.foldl yG a<=9223372036854775807->Lib.parseUintM M a l= .ok (l.foldl yG a)
 | [],a,_,_=>rfl
 |c::r,a,h,hv=>by
  rw[List.all_cons,aJ]at h;have hd:=TK h.1;have hv':r.foldl yG (yG a c)<=9223372036854775807:=hv;have hg:=Ti r (yG a c);have ih:=ap4 hM r (yG a c) h.2 hv';have hs:yG a c=a*10+(c.toNat -48):=by unfold yG;omega
  unfold Lib.parseUintM;rw[if_pos hd,if_neg (by omega),if_neg (by omega),<- hs,ih];rfl
theorem Yd {l:List UInt8} (h1:l.isEmpty=false) (h2:l.all mG=true) (h3:yA l=true):Lib.parseIntB 64 l= .ok (val l:Int):=by
 have hv:val l<=9223372036854775807:=of_decide_eq_true h3;cases l with
 |nil=>cases h1
 |cons c r=>
  have hd:=TK (by rw[List.all_cons,aJ]at h2;exact h2.1);have hu:Lib.parseUintB 64 (c::r)= .ok (val (c::r)):=by unfold Lib.parseUintB;rw[if_neg (by simp)];exact ap4 (by decide) (c::r) 0 h2 hv
  unfold Lib.parseIntB;dsimp only;rw[if_neg (by omega),hu];dsimp only
  rw[if_neg (by rintro⟨-,h⟩;have:(2:Nat) ^ (64 -1)=9223372036854775808:=by decide
                omega),if_neg (by rintro⟨h,-⟩;omega),if_neg (by omega)]
end Go.Proofs.YtmildapbbcbbhaaGreatDoor.Pz
end
section
namespace Go.Proofs.YtmildapbbcbbhaaGreatDoor.Pz
open Go.RowKit Md Tk
def TL (N:Nat) (t:Tok):Prop:=(1<=t.line∧t.line<=N)∧1<=t.kind∧(t.kind=4->sgs.contains t.text=true)∧t.text.length<=N
def WH (ts:bC):Prop:= ∀t∈ts,TL 4097 t
theorem WH.tail {ts:bC} (h:WH ts):WH ts.tail:=λt ht=>h t (List.mem_of_mem_tail ht)
end Go.Proofs.YtmildapbbcbbhaaGreatDoor.Pz
end
section
namespace Go.Proofs.YtmildapbbcbbhaaGreatDoor
open Go.RowKit
open Md Pz
theorem Om {a b:Int} (h:a=b):Ending.returned (.int .i64 a)= .returned (.int .i64 b):=by rw[h]
theorem Gw (x:ByteArray) {l:List UInt8} (hx:x.data.toList=l) (w:World):
 Calls Tryz.prog 99 #[.string x] w λe w'=>e= .returned (.int .i64 (qU l))∧w=w':=by
 have hl:x.toList=l:=by rw[Lib.toList_data];exact hx
 go_enter Tryz.func99,Tryz.ntmps99;go_wp2
 all_goals go_ret
 all_goals exact⟨Om (by unfold qU;simp only[*];rfl),rfl⟩
theorem aR3 {a b c d:Int} (h:(a,c)=(b,d)):Ending.returned (.tuple #[.int .i64 a,.int .i64 c])= .returned (.tuple #[.int .i64 b,.int .i64 d]):=by
 injection h with h1 h2;rw[h1,h2]
theorem Gn (x:ByteArray) {l:List UInt8} (hx:x.data.toList=l) (w:World):
 Calls Tryz.prog 196 #[.string x] w λe w'=>e= .returned (.tuple #[.int .i64 (wD l).1,.int .i64 (wD l).2])∧w=w':=by
 have hl:x.toList=l:=by rw[Lib.toList_data];exact hx
 go_enter Tryz.func196,Tryz.ntmps196;go_wp2
 all_goals go_ret2
 all_goals exact⟨aR3 (by unfold wD;simp only[*];rfl),rfl⟩
def rdV (op:Int):Value:=
 if op==2 then .func (.func 169) #[] #[]else if op==3 then .func (.func 170) #[] #[]
 else if op==4||op==5||op==6 then .func (.func 171) #[] #[]else if op==7||op==8 then .func (.func 172) #[] #[]
 else if op==14 then .func (.func 174) #[] #[]else if op==15 then .func (.func 175) #[] #[]
 else if op==0 then .nilFunc else .func (.func 173) #[] #[]
theorem aW6 {a b:Int} {v:Value} (h:a=b) (hv:v=rdV a):Ending.returned (.tuple #[.int .i64 a,v])= .returned (.tuple #[.int .i64 b,rdV b]):=by rw[<- h,hv]
theorem ae0 (x:ByteArray) {l:List UInt8} (hx:x.data.toList=l) (w:World):
 Calls Tryz.prog 162 #[.string x] w λe w'=>e= .returned (.tuple #[.int .i64 (R3 l),rdV (R3 l)])∧w=w':=by
 have hl:x.toList=l:=by rw[Lib.toList_data];exact hx
 go_enter Tryz.func162,Tryz.ntmps162;go_wp2
 all_goals go_ret2
 all_goals exact⟨aW6 (by unfold R3;simp only[*];rfl) (by rfl),rfl⟩
end Go.Proofs.YtmildapbbcbbhaaGreatDoor
end
section
namespace Go.Proofs.YtmildapbbcbbhaaGreatDoor
open Go.RowKit
open Md Pz
def wF (w:World) (B:Nat):bC->Option Addr->Nat->Prop
 | [],_,_=>True
 |t::r,ao,k=>(∃b off,ao=some ⟨b,off,none⟩∧b<B∧w.cell? ⟨b,off+k*3,none⟩=some (.int .i64 (t.kind:Int))∧w.cell? ⟨b,off+k*3+1,none⟩=some (.string (tx t.text))∧w.cell? ⟨b,off+k*3+2,none⟩=some (.int .i64 (t.line:Int)))∧wF w B r ao (k+1)
theorem wF.below {w w':World} {B:Nat} (hb:Below B w w'): ∀ {l:bC} {ao:Option Addr} {k:Nat},wF w B l ao k->wF w' B l ao k
 | [],_,_,_=>trivial
 |_::_,_,_,⟨⟨b,off,e,hB,c0,c1,c2⟩,hr⟩=>⟨⟨b,off,e,hB,(hb.cell hB).trans c0,(hb.cell hB).trans c1,(hb.cell hB).trans c2⟩,wF.below hb hr⟩
theorem wF.drop {w:World} {B:Nat} : ∀ {l:bC} {ao:Option Addr} {k:Nat} (i:Nat),wF w B l ao k->wF w B (l.drop i) ao (k+i)
 |_,_,_,0,h=>h
 | [],_,_,_+1,_=>by simp[wF]
 |_::_,_,k,i+1,⟨_,hr⟩=>by have:=wF.drop i hr;rw[List.drop_succ_cons];rwa [Nat.add_assoc,Nat.add_comm 1 i]at this
structure Rp where
 B0:Nat
 br:Nat
 ao:Option Addr
 cap:Nat
 ts:bC
 b0:B0<=br
structure eP (w:World) (R:Rp) (rest:bC):Prop where
 blk: ∃pos:Nat,pos<=R.ts.length∧R.ts.drop pos=rest∧w.heap[R.br]? =some (.cells #[.slice R.ao R.ts.length R.cap,.int .i64 (pos:Int)] 135 (0,0))
 tok:wF w R.B0 R.ts R.ao 0
 ok:Gh R.ts∧R.ts.length<=4096
 tl:WH R.ts
theorem eP.lt {w:World} {R:Rp} {rest:bC} (h:eP w R rest):R.br<w.heap.size:=by obtain⟨a,-,-,h⟩:=h.blk;exact(aO h)
theorem eP.ts {w:World} {R:Rp} {rest:bC} (h:eP w R rest):Gh rest:=by
 obtain⟨a,-,rfl,-⟩:=h.blk;exact λt ht=>h.ok.1 t (List.mem_of_mem_drop ht)
theorem eP.tsl {w:World} {R:Rp} {rest:bC} (h:eP w R rest):WH rest:=by
 obtain⟨a,-,rfl,-⟩:=h.blk;exact λt ht=>h.tl t (List.mem_of_mem_drop ht)
theorem eP.len {w:World} {R:Rp} {rest:bC} (h:eP w R rest):rest.length<=4096:=by
 obtain⟨a,-,rfl,-⟩:=h.blk;have:=h.ok.2;simp;omega
theorem eP.below {w w':World} {R:Rp} {rest:bC} (h:eP w R rest) (hb:Below w.heap.size w w'):eP w' R rest:=by
 obtain⟨a,h1,h2,h3⟩:=h.blk;exact⟨⟨a,h1,h2,(hb.block _ h.lt).trans h3⟩,h.tok.below (hb.mono (aP R.b0 (cB h.lt))),h.ok,h.tl⟩
theorem eP.next {w:World} {R:Rp} {t:Tk.Tok} {r:bC} {pos:Nat} (h:eP w R (t::r)) (hd:R.ts.drop pos=t::r) (hb:w.heap[R.br]? =some (.cells #[.slice R.ao R.ts.length R.cap,.int .i64 (pos:Int)] 135 (0,0))):eP (w.setCell ⟨R.br,1,none⟩ (.int .i64 ((pos:Int)+1))) R r:=by
 have hlt:pos<R.ts.length:=by have:=congrArg List.length hd;simp at this;omega
 refine⟨⟨pos+1,hlt,?_,by rw[dh hb];rfl⟩,h.tok.below (cZ (bY _ _ _) R.b0 (aP R.b0 (cB h.lt))),h.ok,h.tl⟩;rw[<- List.drop_drop,hd];rfl
def wL (ts:bC):Value:= .agg #[.int .i64 (nextK ts:Nat),.string (tx (bK ts)),.int .i64 (fP ts:Nat)]
theorem D6 (w:World) (cs:Array Value) (t:TypeId) (n:Nat):Below w.heap.size w ((w.alloc (.cells cs t)).drewN n)∧((w.alloc (.cells cs t)).drewN n).heap[w.heap.size]? =some (.cells cs t (0,0)):=
 ⟨below_drewN (au _ _) n,((below_drewN (ak (w.alloc (.cells cs t)).heap.size _) n).block _ (by simp)).trans (heap_alloc_new w _)⟩
theorem pJ {B:Nat} {w w':World} (h:Below B w w') (a:Addr) (v:Value) (hb:B<=a.block):Below B w (w'.setCell a v):=
 ⟨h.os,h.tape,h.output,by have:=h.size;simpa[World.setCell]using this,λk hk=>(bf w' a v rfl (by omega)).trans (h.block k hk)⟩
theorem aX4 {w:World} {B:Nat} : ∀ {l:bC} {ao:Option Addr} {k:Nat} {t:Tk.Tok} {r:bC},l=t::r->wF w B l ao k->∃b off,ao=some ⟨b,off,none⟩∧b<B∧w.cell? ⟨b,off+k*3,none⟩=some (.int .i64 (t.kind:Int))∧w.cell? ⟨b,off+k*3+1,none⟩=some (.string (tx t.text))∧w.cell? ⟨b,off+k*3+2,none⟩=some (.int .i64 (t.line:Int))
 |_,_,_,_,_,rfl,h=>h.1
theorem qW (R:Rp) (rest:bC) (w:World) (hI:eP w R rest):
 Calls Tryz.prog 98 #[.pointer (some ⟨R.br,0,none⟩)] w λe w'=>e= .returned (wL rest)∧Below w.heap.size w w':=by
 obtain⟨pos,hp,hd,hblk⟩:=hI.blk;have HI:=ah hI;have HD:=ah hd;obtain⟨c0,c1⟩:=pK hblk;have hl:=hI.ok.2;have hlt:=hI.lt;clear hI hd hblk;by_cases hlt2:R.ts.length<=pos
 ·have hq:decide ((R.ts.length:Int)<=(pos:Int))=true:=by rw[decide_eq_true_iff];omega
  have HR:aj (rest=[]):=ah (by rw[<- HD.o];exact List.drop_eq_nil_iff.2 hlt2);go_enter Tryz.func98,Tryz.ntmps98;go_upto_region 1 with fail;go_quiet (fail);generalize hW:World.drewN (World.alloc w _) _=W1;have HB1:aj (Below w.heap.size w W1):=ah (by rw[<- hW];exact(D6 w _ _ _).1);have BI:aj (W1.heap[w.heap.size]? =some (.cells #[.int .i64 0,.string ⟨#[]⟩,.int .i64 0] 156 (0,0))):=ah (by rw[<- hW];exact(D6 w _ _ _).2);clear hW c0 c1 hq;obtain⟨y0,y1,y2⟩:=D7 BI.o;have f0:W1.frozen? ⟨w.heap.size,0,none⟩=false:=bH BI.o;have f1:W1.frozen? ⟨w.heap.size,1,none⟩=false:=bH BI.o;have f2:W1.frozen? ⟨w.heap.size,2,none⟩=false:=bH BI.o;go_wp2_with fail;have hr:=HR.o;subst hr;exact bodyPost_ret (v:=wL []) (by simp[results,Tryz.results98,go_sem,y0,y1,y2,wL,nextK,bK,fP,tx]) rfl ⟨rfl,pJ (pJ (pJ HB1.o _ _ (aB _)) _ _ (aB _)) _ _ (aB _)⟩
 ·have hq:decide ((R.ts.length:Int)<=(pos:Int))=false:=by rw[decide_eq_false_iff_not];omega
  obtain⟨t,r,HR⟩: ∃t r,aj (rest=t::r):=by
   cases hrs:rest with
   |nil=>rw[hrs]at HD;exact absurd (List.drop_eq_nil_iff.1 HD.o) hlt2
   |cons t r=>exact⟨t,r,ah rfl⟩
  have Sn:aj (∀w',Below w.heap.size w w'->∃b off,R.ao=some ⟨b,off,none⟩∧b<R.B0∧w'.cell? ⟨b,off+pos*3,none⟩=some (.int .i64 (t.kind:Int))∧w'.cell? ⟨b,off+pos*3+1,none⟩=some (.string (tx t.text))∧w'.cell? ⟨b,off+pos*3+2,none⟩=some (.int .i64 (t.line:Int))):=ah (λw' hb=>by have:=(HI.o.below hb).tok.drop pos;rw[aU]at this;exact aX4 (HD.o.trans HR.o) this);obtain⟨bb,off,hao,hbb,-⟩:=Sn.o w (ak _ _);have zF:=ah hao;rw[hao]at c0;clear hao;go_enter Tryz.func98,Tryz.ntmps98;go_upto_region 1 with fail;go_quiet (fail);generalize hW:World.drewN (World.alloc w _) _=W1;have HB1:aj (Below w.heap.size w W1):=ah (by rw[<- hW];exact(D6 w _ _ _).1);have BI:aj (W1.heap[w.heap.size]? =some (.cells #[.int .i64 0,.string ⟨#[]⟩,.int .i64 0] 156 (0,0))):=ah (by rw[<- hW];exact(D6 w _ _ _).2);have d0:W1.cell? ⟨R.br,0,none⟩=some (.slice (some ⟨bb,off,none⟩) R.ts.length R.cap):=(HB1.o.cell hlt).trans c0;have d1:W1.cell? ⟨R.br,1,none⟩=some (.int .i64 (pos:Int)):=(HB1.o.cell hlt).trans c1;obtain⟨b',off',hao,-,e0,e1,e2⟩:=Sn.o W1 HB1.o;rw[zF.o]at hao;injection hao with hao;injection hao with h1 h2;subst h1;subst h2;clear hW c0 c1 hq Sn;obtain⟨y0,y1,y2⟩:=D7 BI.o;have f0:W1.frozen? ⟨w.heap.size,0,none⟩=false:=bH BI.o;have f1:W1.frozen? ⟨w.heap.size,1,none⟩=false:=bH BI.o;have f2:W1.frozen? ⟨w.heap.size,2,none⟩=false:=bH BI.o;have hb0:(0:Int)<=(pos:Int):=by omega
  have hb1:(pos:Int)<(R.ts.length:Int):=by omega
  go_upto_region 3 with fail;go_still_tail 10,(by kernel_rfl);change wpList _ _ _ _ _ W1.drew;have HB2:aj (Below w.heap.size w W1.drew):=ah (below_drewN HB1.o 1);have hr:=HR.o;go_wp2_with fail;subst hr;exact bodyPost_ret (v:=wL (t::r)) (by simp[results,Tryz.results98,go_sem,y0,y1,y2,wL,nextK,bK,fP]) rfl ⟨rfl,pJ (pJ (pJ HB2.o _ _ (aB _)) _ _ (aB _)) _ _ (aB _)⟩
theorem aq8 (x:ByteArray) {l:List UInt8} (hx:x.data.toList=l) (rest:bC):
 at' l rest=(((((nextK rest:Nat):Int)==3)||(((nextK rest:Nat):Int)==4))&&((tx (bK rest)).toList==x.toList)):=by
 have h3:(((nextK rest:Nat):Int)==3)=(nextK rest==3):=by rw[Bool.eq_iff_iff,beq_iff_eq,beq_iff_eq];omega
 have h4:(((nextK rest:Nat):Int)==4)=(nextK rest==4):=by rw[Bool.eq_iff_iff,beq_iff_eq,beq_iff_eq];omega
 rw[h3,h4,Lib.toList_data,Lib.toList_data,hx];rfl
theorem Ko (R:Rp) (rest:bC) (w:World) (x:ByteArray) {l:List UInt8} (hx:x.data.toList=l) (hI:eP w R rest):
 Calls Tryz.prog 101 #[.pointer (some ⟨R.br,0,none⟩),.string x] w λe w'=>e= .returned (.bool (at' l rest))∧Below w.heap.size w w':=by
 have HE:=ah (aq8 x hx rest);have HN:=ah (qW R rest w hI);unfold wL at HN;generalize at' l rest=res at *;generalize ((nextK rest:Nat):Int)=k at *;generalize ((fP rest:Nat):Int)=n at *;generalize tx (bK rest)=s at *;clear hI hx;go_enter Tryz.func101,Tryz.ntmps101;go_wp2_with fail;refine HN.o.mono ?_;rintro e w1 ⟨rfl,hb⟩;have HB:=ah hb;clear hb HN;go_wp2_with fail
 all_goals go_ret
 all_goals exact⟨congrArg (λb=>Ending.returned (.bool b)) (by rw[HE.o];simp[*]),HB.o.alloc HB.o.size _⟩
theorem cell_far {w:World} {a:Addr} {v:Value} {g j:Nat} {u:Value} (h:a.block≠g) (hc:w.cell? ⟨g,j,none⟩=some u):(w.setCell a v).cell? ⟨g,j,none⟩=some u:=
 (World.cell?_of_block (a:=⟨g,j,none⟩) (bf w a v rfl h)).trans hc
theorem jL {b:Option Nat} {w w':World} (h:Below w.heap.size w w'):w.grownBy w' b:=⟨h.os,h.tape,h.output,h.size,λk hk _=>h.block k hk⟩
theorem eP.nt {w:World} {R:Rp} {t:Tk.Tok} {r:bC} {pos:Nat} (h:eP w R (t::r)) (hd:R.ts.drop pos=t::r) (hb:w.heap[R.br]? =some (.cells #[.slice R.ao R.ts.length R.cap,.int .i64 (pos:Int)] 135 (0,0))):
 eP (w.setCell ⟨R.br,1,none⟩ (.int .i64 ((pos:Int)+1))) R r∧w.grownBy (w.setCell ⟨R.br,1,none⟩ (.int .i64 ((pos:Int)+1))) (some R.br):=
 ⟨h.next hd hb,bY w ⟨R.br,1,none⟩ _⟩
theorem eP.open {w:World} {R:Rp} {rest:bC} (h:eP w R rest): ∃pos:Nat,(pos<=R.ts.length∧pos<=4096)∧w.cell? ⟨R.br,0,none⟩=some (.slice R.ao R.ts.length R.cap)∧w.cell? ⟨R.br,1,none⟩=some (.int .i64 (pos:Int))∧w.frozen? ⟨R.br,1,none⟩=false∧
 aj (∀t r,rest=t::r->eP (w.setCell ⟨R.br,1,none⟩ (.int .i64 ((pos:Int)+1))) R r∧w.grownBy (w.setCell ⟨R.br,1,none⟩ (.int .i64 ((pos:Int)+1))) (some R.br)):=by
 obtain⟨pos,h1,h2,h3⟩:=h.blk;have:=h.ok.2;refine⟨pos,⟨h1,by omega⟩,aQ h3 rfl,aQ h3 rfl,bH h3,ah (λt r e=> ?_)⟩;subst e;exact h.nt h2 h3
theorem pI (R:Rp) (rest:bC) (w:World) (x:ByteArray) {l:List UInt8} (hx:x.data.toList=l) (h:at' l rest=false) (hI:eP w R rest):
 Calls Tryz.prog 141 #[.pointer (some ⟨R.br,0,none⟩),.string x] w λe w'=>e= .returned (.bool false)∧Below w.heap.size w w':=by
 have HN:=ah (Ko R rest w x hx hI);rw[h]at HN;clear hI hx h;go_enter Tryz.func141,Tryz.ntmps141;go_wp2_with fail;refine HN.o.mono ?_;rintro e w1 ⟨rfl,hb⟩;have HB:=ah hb;clear hb HN;go_wp2_with fail;go_ret;exact⟨rfl,HB.o⟩
theorem kW (R:Rp) (rest:bC) (w:World) (x:ByteArray) {l:List UInt8} (hx:x.data.toList=l) (h:at' l rest=true) (hI:eP w R rest):
 Calls Tryz.prog 141 #[.pointer (some ⟨R.br,0,none⟩),.string x] w λe w'=>e= .returned (.bool true)∧eP w' R rest.tail∧w.grownBy w' (some R.br):=by
 have HN:=ah (Ko R rest w x hx hI);rw[h]at HN;obtain⟨t,r,hr⟩:=WL h;have HR:=ah hr;have HI:=ah hI;clear hI hx h hr;go_enter Tryz.func141,Tryz.ntmps141;go_wp2_with fail;refine HN.o.mono ?_;rintro e w1 ⟨rfl,hb⟩;obtain⟨pos,hp,c0,c1,f1,HX⟩:=(HI.o.below hb).open;have HB:=ah hb;clear hb HN;go_wp2_with fail;go_ret;obtain⟨q1,q2⟩:=HX.o t r HR.o;exact⟨rfl,by rw[HR.o];exact q1,jM (jL HB.o) q2⟩
theorem NJ (n:Nat) (rest:bC):(nextK rest==n)=(((nextK rest:Nat):Int)==(n:Int)):=by
 rw[Bool.eq_iff_iff,beq_iff_eq,beq_iff_eq];omega
theorem uJ (R:Rp) (rest:bC) (w:World) (h:isName rest=true) (hI:eP w R rest):
 Calls Tryz.prog 138 #[.pointer (some ⟨R.br,0,none⟩)] w λe w'=>e= .returned (.tuple #[.string (tx (bK rest)),.bool true])∧eP w' R rest.tail∧w.grownBy w' (some R.br):=by
 have HN:=ah (qW R rest w hI);obtain⟨t,r,hr⟩: ∃t r,rest=t::r:=by
  cases rest with
  |nil=>exact absurd h (by simp[isName,nextK])
  |cons t r=>exact⟨t,r,rfl⟩
 have HR:=ah hr;have HI:=ah hI;have hk:nextK rest=1:=by simpa[isName]using h
 unfold wL at HN;rw[hk]at HN;have HK:=ah hk;have hlt:=hI.lt;clear hI h hr hk;go_enter Tryz.func138,Tryz.ntmps138;go_wp2_with fail;refine HN.o.mono ?_;rintro e w1 ⟨rfl,hb⟩;have HB:=ah hb;clear hb HN;go_upto_region 2 with fail;generalize hW:World.alloc w1 _=W;obtain⟨g,hg,-,-,HC,-⟩:=oO hW;have HB1:aj (Below w.heap.size w W):=ah (by rw[<- hW];exact HB.o.alloc HB.o.size _);have HG:aj (g≠R.br):=ah (by have:=HB.o.size;omega);rw[hg];obtain⟨y0,y1⟩:=pK HC.o;obtain⟨pos,hp,c0,c1,f1,HX⟩:=(HI.o.below HB1.o).open;have z1:(W.setCell ⟨R.br,1,none⟩ (.int .i64 ((pos:Int)+1))).cell? ⟨g,1,none⟩=some (.string (tx (bK rest))):=cell_far (λe=>HG.o e.symm) y1;clear hW hg HB;go_wp2_with fail
 go_ret2
 obtain⟨q1,q2⟩:=HX.o t r HR.o;exact⟨rfl,by rw[HR.o];exact q1,jM (jL HB1.o) q2⟩
theorem op_spec (lv:Int) (rest:bC):opAt lv rest=if(((nextK rest:Nat):Int)==4)=true∧((wD (bK rest)).2==lv)=true then(wD (bK rest)).1 else 0:=by
 have h4:(((nextK rest:Nat):Int)==4)=(nextK rest==4):=by rw[Bool.eq_iff_iff,beq_iff_eq,beq_iff_eq];omega
 rw[h4];unfold opAt;simp only[aJ]
theorem QM (R:Rp) (rest:bC) (w:World) (lv:Int) (hI:eP w R rest):
 Calls Tryz.prog 193 #[.pointer (some ⟨R.br,0,none⟩),.int .i64 lv] w λe w'=>e= .returned (.int .i64 (opAt lv rest))∧Below w.heap.size w w':=by
 have HE:=ah (op_spec lv rest);have HN:=ah (qW R rest w hI);have HB0:aj (∀w,Calls Tryz.prog 196 #[.string (tx (bK rest))] w λe w'=>e= .returned (.tuple #[.int .i64 (wD (bK rest)).1,.int .i64 (wD (bK rest)).2])∧w=w'):=ah (Gn (tx (bK rest)) rfl);unfold wL at HN;generalize opAt lv rest=res at *;generalize ((nextK rest:Nat):Int)=k at *;generalize ((fP rest:Nat):Int)=n at *;generalize tx (bK rest)=s at *;generalize (wD (bK rest)).1=a at *;generalize (wD (bK rest)).2=b at *;clear hI;go_enter Tryz.func193,Tryz.ntmps193;go_wp2_with fail;refine HN.o.mono ?_;rintro e w1 ⟨rfl,hb⟩;have HB:=ah hb;clear hb HN;cases h4:(k==4)
 ·go_wp2_with fail;go_ret;exact⟨Om (by rw[HE.o,if_neg (by rw[h4];rintro⟨h,-⟩;cases h)]),HB.o.alloc HB.o.size _⟩
 ·cases hl:(b==lv)
  all_goals go_wp2_with (with_reducible refine(HB0.o _).mono ?_;rintro e w2 ⟨rfl,rfl⟩);go_ret
  ·exact⟨Om (by rw[HE.o,if_neg (by rw[hl];rintro⟨-,h⟩;cases h)]),HB.o.alloc HB.o.size _⟩
  ·exact⟨Om (by rw[HE.o,if_pos ⟨h4,hl⟩]),HB.o.alloc HB.o.size _⟩
theorem eP.pos {w:World} {R:Rp} {rest:bC} (h:eP w R rest): ∃pos:Nat,pos<=R.ts.length∧R.ts.drop pos=rest∧w.cell? ⟨R.br,0,none⟩=some (.slice R.ao R.ts.length R.cap)∧w.cell? ⟨R.br,1,none⟩=some (.int .i64 (pos:Int)):=by
 obtain⟨pos,h1,h2,h3⟩:=h.blk;exact⟨pos,h1,h2,aQ h3 rfl,aQ h3 rfl⟩
end Go.Proofs.YtmildapbbcbbhaaGreatDoor
end
section
namespace Go.Proofs.YtmildapbbcbbhaaGreatDoor
open Go.RowKit
open Md Pz
theorem Rq {w w':World} {T:TypeId} (h:w'=w∨∃t,w'=Lib.bytesWorld w T t):Below w.heap.size w w':=by
 rcases h with rfl|⟨t,rfl⟩
 ·exact ak _ _
 ·exact Lib.bytesWorld_below _ _ _
theorem Ya (R:Rp) (rest:bC) (w:World) (h:isNum rest=false) (hI:eP w R rest):
 Calls Tryz.prog 150 #[.pointer (some ⟨R.br,0,none⟩)] w λe w'=>e= .returned (.tuple #[.int .i64 0,.bool false])∧Below w.heap.size w w':=by
 have HN:=ah (qW R rest w hI);have h1:(((nextK rest:Nat):Int)==2)=false:=(NJ 2 rest).symm.trans h;unfold wL at HN;generalize ((nextK rest:Nat):Int)=k at *;clear hI h;go_enter Tryz.func150,Tryz.ntmps150;go_wp2_with fail;refine HN.o.mono ?_;rintro e w1 ⟨rfl,hb⟩;have HB:=ah hb;clear hb HN;go_wp2_with fail
 go_ret2
 exact⟨rfl,HB.o.alloc HB.o.size _⟩
theorem Ua (R:Rp) (rest:bC) (w:World) (h:isNum rest=true) (hI:eP w R rest):
 Calls Tryz.prog 150 #[.pointer (some ⟨R.br,0,none⟩)] w λe w'=>e= .returned (.tuple #[.int .i64 ((Tk.val (bK rest):Nat):Int),.bool true])∧eP w' R rest.tail∧w.grownBy w' (some R.br):=by
 have HN:=ah (qW R rest w hI);obtain⟨t,r,hr⟩: ∃t r,rest=t::r:=by
  cases rest with
  |nil=>exact absurd h (by simp[isNum,nextK])
  |cons t r=>exact⟨t,r,rfl⟩
 have HR:=ah hr;have HI:=ah hI;have hk:nextK rest=2:=by simpa[isNum]using h
 have hts:=YE hI.ts h;have hsz:(tx (bK rest)).size<=9223372036854775806:=by have:=(hI.tsl t (by rw[hr];simp)).2.2.2;rw[hr];show t.text.toArray.size<=_;simp;omega
 have HP:aj (∀w,Calls Tryz.prog 160 #[.string (tx (bK rest)),.int .i64 10,.int .i64 64] w λe w'=>e= .returned (.tuple #[.int .i64 ((Tk.val (bK rest):Nat):Int),.nilIface])∧(w'=w∨∃t,w'=Lib.bytesWorld w 5 t)):=ah (λw=>Tryz.strconv_ParseInt_10_at64_ok (tx (bK rest)) hsz _ (by rw[Mv];exact Yd hts.1.1 hts.1.2 hts.2) w);unfold wL at HN;rw[hk]at HN;have hlt:=hI.lt;clear hI h hr hk hts;generalize ((Tk.val (bK rest):Nat):Int)=n at *;go_enter Tryz.func150,Tryz.ntmps150;go_wp2_with fail;refine HN.o.mono ?_;rintro e w1 ⟨rfl,hb⟩;have HB:=ah hb;clear hb HN;go_wp2_with fail;refine(HP.o _).mono ?_;rintro e w2 ⟨rfl,hb⟩;have HB2:aj (Below w.heap.size w w2):=ah ((HB.o.alloc HB.o.size _).trans ((Rq hb).mono (by have:=HB.o.size;simp;omega)));obtain⟨pos,hp,c0,c1,f1,HX⟩:=(HI.o.below HB2.o).open;clear hb HP;go_wp2_with fail
 go_ret2
 obtain⟨q1,q2⟩:=HX.o t r HR.o;exact⟨rfl,by rw[HR.o];exact q1,jM (jL HB2.o) q2⟩
end Go.Proofs.YtmildapbbcbbhaaGreatDoor
end
section
namespace Go.Proofs.YtmildapbbcbbhaaGreatDoor
open Go.RowKit
open Md Pz
def Im (x:E):Prop:=qP x.op x.n x.nm x.kids
def EV (B:Nat) (x:E) (v:Value) (w:World):Prop:= ∃ao cap,v=exV x.op x.n x.nm x.kids ao cap∧Im x∧gU B w (λw2=>x.kids.At w2 w2.heap.size ao 0)
theorem EV.next {B:Nat} {x:E} {v:Value} {w w':World} (h:EV B x v w) (ha:kG B w w'):EV B x v w':=by
 obtain⟨ao,cap,h1,h2,h3⟩:=h;exact⟨ao,cap,h1,h2,h3.next ha⟩
theorem EV.mono {B B':Nat} {x:E} {v:Value} {w:World} (h:EV B' x v w) (hB:B<=B'):EV B x v w:=by
 obtain⟨ao,cap,h1,h2,h3⟩:=h;exact⟨ao,cap,h1,h2,h3.mono hB⟩
def zE:Value:= .agg #[.int .i64 0,.int .i64 0,.string ⟨#[]⟩,.slice none 0 0]
def vI (R:Rp) (w:World) (r:ow E) (e:Ending) (w':World):Prop:=
 match r with
 | .ok x rest=> ∃v,e= .returned (.tuple #[v,.bool true])∧EV w.heap.size x v w'∧eP w' R rest∧w.grownBy w' (some R.br)
 | .no rest=>e= .returned (.tuple #[zE,.bool false])∧eP w' R rest∧w.grownBy w' (some R.br)
def Ai (w:World) (b:Nat) (v0 v1 v2 v3:Value):World:=(((w.setCell ⟨b,0,none⟩ v0).setCell ⟨b,1,none⟩ v1).setCell ⟨b,2,none⟩ v2).setCell ⟨b,3,none⟩ v3
theorem Ck {br:Nat} {w w':World} (h:w.grownBy w' (some br)) (a:Addr) (v:Value) (hb:w.heap.size<=a.block):w.grownBy (w'.setCell a v) (some br):=
 ⟨h.os,h.tape,h.output,by have:=h.size;simpa[World.setCell]using this,λk hk hn=>(bf w' a v rfl (by omega)).trans (h.block k hk hn)⟩
theorem zn {br:Nat} {w w':World} (h:w.grownBy w' (some br)) (o:Obj):w.grownBy (w'.alloc o) (some br):=jM h (jL (au _ _))
theorem uQ {w:World} {R:Rp} {rest:bC} (h:eP w R rest) (a:Addr) (v:Value) (h0:R.B0<=a.block) (h1:a.block≠R.br):eP (w.setCell a v) R rest:=by
 obtain⟨pos,k1,k2,k3⟩:=h.blk;exact⟨⟨pos,k1,k2,(bf w a v rfl h1).trans k3⟩,h.tok.below (cZ (bY w a v) h0 (aP R.b0 (cB h.lt))),h.ok,h.tl⟩
theorem zo {w:World} {R:Rp} {rest:bC} (h:eP w R rest) (o:Obj):eP (w.alloc o) R rest:=h.below (au _ _)
structure Wk (R:Rp) (w W:World) (rest:bC):Prop where
 rd:eP W R rest
 gr:w.grownBy W (some R.br)
 lt:R.br<w.heap.size
theorem Wk.start {R:Rp} {w:World} {rest:bC} (h:eP w R rest):Wk R w w rest:=⟨h,Et _,h.lt⟩
section
variable {R:Rp} {w W W':World} {rest rest':bC}
theorem Wk.set (h:Wk R w W rest) (a:Addr) (v:Value) (hb:w.heap.size<=a.block):Wk R w (W.setCell a v) rest:=
 ⟨uQ h.rd a v (by have:=R.b0;have:=h.lt;omega) (by have:=h.lt;omega),Ck h.gr a v hb,h.lt⟩
theorem Wk.alloc (h:Wk R w W rest) (o:Obj):Wk R w (W.alloc o) rest:=⟨zo h.rd o,zn h.gr o,h.lt⟩
theorem Wk.below (h:Wk R w W rest) (hb:Below W.heap.size W W'):Wk R w W' rest:=⟨h.rd.below hb,jM h.gr (jL hb),h.lt⟩
theorem Wk.then (h:Wk R w W rest) (h1:eP W' R rest') (h2:W.grownBy W' (some R.br)):Wk R w W' rest':=⟨h1,jM h.gr h2,h.lt⟩
theorem Wk.Ai (h:Wk R w W rest) (b:Nat) (v0 v1 v2 v3:Value) (hb:w.heap.size<=b):Wk R w (Ai W b v0 v1 v2 v3) rest:=
 (((h.set ⟨b,0,none⟩ v0 hb).set ⟨b,1,none⟩ v1 hb).set ⟨b,2,none⟩ v2 hb).set ⟨b,3,none⟩ v3 hb
theorem Wk.kept (h:Wk R w W rest) (h2:W.grownBy W' (some R.br)) {k:Nat} (hk:w.heap.size<=k) (hl:k<W.heap.size):W'.heap[k]? =W.heap[k]?:=h2.block k hl (by have:=h.lt;simp;omega)
end
theorem QU (w:World) (b:Nat) (v0 v1 v2 v3:Value):kG (b+1) w (Ai w b v0 v1 v2 v3):=by
 have x1:kG (b+1) w _:=iF w ⟨b,0,none⟩ v0 (Nat.lt_succ_self _);have x2:=x1.trans (iF _ ⟨b,1,none⟩ v1 (Nat.lt_succ_self _));have x3:=x2.trans (iF _ ⟨b,2,none⟩ v2 (Nat.lt_succ_self _));exact x3.trans (iF _ ⟨b,3,none⟩ v3 (Nat.lt_succ_self _))
theorem Yl (w:World) (b:Nat) (v0 v1 v2 v3:Value):(Ai w b v0 v1 v2 v3).heap.size=w.heap.size:=by simp[Ai,World.setCell]
theorem zP {br B:Nat} {w w':World} (h:w.grownBy w' (some br)) (hB:br<B):kG B w w':=⟨h.size,λk h1 h2=>h.block k h2 (by simp;omega)⟩
end Go.Proofs.YtmildapbbcbbhaaGreatDoor
end
section
namespace Go.Proofs.YtmildapbbcbbhaaGreatDoor
open Go.RowKit
open Md Pz
theorem zA {w:World} {b:Nat} {t:TypeId} (h:w.heap[b]? =some (.cells #[.int .i64 0,.int .i64 0,.string ⟨#[]⟩,.slice none 0 0] t (0,0))):
 (w.cell? ⟨b,0,none⟩=some (.int .i64 0)∧w.cell? ⟨b,1,none⟩=some (.int .i64 0)∧w.cell? ⟨b,2,none⟩=some (.string ⟨#[]⟩)∧w.cell? ⟨b,3,none⟩=some (.slice none 0 0))∧w.frozen? ⟨b,0,none⟩=false∧w.frozen? ⟨b,1,none⟩=false∧w.frozen? ⟨b,2,none⟩=false∧w.frozen? ⟨b,3,none⟩=false:=
 ⟨⟨aQ h rfl,aQ h rfl,aQ h rfl,aQ h rfl⟩,bH h,bH h,bH h,bH h⟩
theorem R7 {B g:Nat} {w w1:World} {Q:World->Prop} (h:gU B w Q) (ha:kG B w w1) (hg:w.heap.size<=g):oz B (some g) w1 Q:=λw' h'=>
 h w' ⟨aP ha.1 h'.1,λk h1 h2=>(h'.2 k h1 (λe=>by injection e with e;omega) (aG h2 ha.1)).trans (ha.2 k h1 h2)⟩
theorem Di:bW 0:=by unfold bW;omega
theorem Kr {R:Rp} {w w2:World} {r:bC} {x:E} {ao:Option Addr} {cap:Nat} {a b c d:Value} (h:Wk R w w2 r) (hE:Im x∧gU (w.heap.size+1) w2 (λw2=>x.kids.At w2 w2.heap.size ao 0)):
 vI R w (.ok x r) (.returned (.tuple #[exV x.op x.n x.nm x.kids ao cap,.bool true])) (Ai w2 w.heap.size a b c d):=by
 have hk:=h.Ai w.heap.size a b c d (aB _);exact⟨_,rfl,⟨ao,cap,rfl,hE.1,(hE.2.next (QU w2 w.heap.size a b c d)).mono (gY _)⟩,hk.rd,hk.gr⟩
theorem ab4 {R:Rp} {w w2:World} {r:bC} {op n:Int} {nm:ByteArray} {a b c d:Value} (h:Wk R w w2 r) (h1:bW op) (h2:bW n) (h3:nm.size<=maxLen):
 vI R w (.ok ⟨op,n,nm,.nil⟩ r) (.returned (.tuple #[exV op n nm .nil none 0,.bool true])) (Ai w2 w.heap.size a b c d):=by
 have hk:=h.Ai w.heap.size a b c d (aB _);exact⟨_,rfl,⟨none,0,rfl,⟨h1,h2,h3,bT _⟩,λ_ _=>trivial⟩,hk.rd,hk.gr⟩
theorem aO3 {R:Rp} {w w2:World} {r:bC} {x:E} {ao:Option Addr} {cap:Nat} {nm:ByteArray} {t:TypeId} (hn:nm.size<=maxLen) (h:Wk R w w2 r) (hlt:w.heap.size<w2.heap.size) (hE:Im x∧gU (w.heap.size+1) w2 (λw2=>x.kids.At w2 w2.heap.size ao 0)):
 vI R w (.ok (TR nm x) r) (.returned (.tuple #[exV 3 0 nm (.cons x.op x.n x.nm x.kids .nil) (some ⟨w2.heap.size,0,none⟩) 1,.bool true]))
  ((Ai w2 w.heap.size (.int .i64 3) (.int .i64 0) (.string nm) (.slice (some ⟨w2.heap.size,0,none⟩) 1 1)).alloc (.cells #[.int .i64 x.op,.int .i64 x.n,.string x.nm,.slice ao x.kids.len cap] t)):=by
 have hk:=h.Ai w.heap.size (.int .i64 3) (.int .i64 0) (.string nm) (.slice (some ⟨w2.heap.size,0,none⟩) 1 1) (aB _);have ha:=QU w2 w.heap.size (.int .i64 3) (.int .i64 0) (.string nm) (.slice (some ⟨w2.heap.size,0,none⟩) 1 1);have hs:=Yl w2 w.heap.size (.int .i64 3) (.int .i64 0) (.string nm) (.slice (some ⟨w2.heap.size,0,none⟩) 1 1);generalize Ai w2 w.heap.size _ _ _ _=W at *;refine⟨_,rfl,⟨_,1,rfl,⟨(by unfold bW;decide:bW 3),Di,hn,by simp[TR,bJ.len,maxLen]⟩,?_⟩,(hk.alloc _).rd,(hk.alloc _).gr⟩;rw[<- hs];exact(JJ (heap_alloc_new _ _) (by omega) hE.1 ((hE.2.next ha).next (bL (au _ _)))).mono (gY _)
theorem xA {l:List UInt8} (h:Tk.jv l=true):(tx l).size<=maxLen:=by
 unfold Tk.jv at h;simp only[aJ,decide_eq_true_eq]at h;have:(tx l).size=l.length:=by simp[tx,ByteArray.size]
 unfold maxLen;omega
theorem Xe {w:World} {g:Nat} {x:E} {ao:Option Addr} {cap:Nat} {t:TypeId} (h:w.heap[g]? =some (.cells (Qa x.op x.n x.nm x.kids ao cap).toArray t (0,0))):
 (w.cell? ⟨g,0,none⟩=some (.int .i64 x.op)∧w.cell? ⟨g,1,none⟩=some (.int .i64 x.n)∧w.cell? ⟨g,2,none⟩=some (.string x.nm)∧w.cell? ⟨g,3,none⟩=some (.slice ao x.kids.len cap))∧w.frozen? ⟨g,0,none⟩=false∧w.frozen? ⟨g,1,none⟩=false∧w.frozen? ⟨g,2,none⟩=false∧w.frozen? ⟨g,3,none⟩=false:=
 ⟨⟨aQ h rfl,aQ h rfl,aQ h rfl,aQ h rfl⟩,bH h,bH h,bH h,bH h⟩
def Pt (r:bC):Prop:= ∀lv:Int,opAt lv r=0
inductive Ez:bC->E->bC->Prop
 |nm {ts:bC} :isName ts=true->at' [91] ts.tail=false->Pt ts.tail->Ez ts ⟨2,0,tx (bK ts),.nil⟩ ts.tail
 |ix {ts r:bC} {x:E} :isName ts=true->at' [91] ts.tail=true->Ez ts.tail.tail x r->at' [93] r=true->Pt r.tail->Ez ts (TR (tx (bK ts)) x) r.tail
theorem Ez.name {ts r:bC} {x:E} (h:Ez ts x r):isName ts=true:=by cases h <;> assumption
theorem Ez.noop {ts r:bC} {x:E} (h:Ez ts x r):Pt r:=by cases h <;> assumption
theorem an9 {ts:bC} (h:isName ts=true) (y:List UInt8):at' y ts=false:=by
 unfold isName at h;unfold at';rw[eq_of_beq h];rfl
theorem XY {ts:bC} (h:isName ts=true):isNum ts=false:=by
 unfold isName at h;unfold isNum;rw[eq_of_beq h];rfl
theorem got {R:Rp} {w W w2:World} {ts r:bC} {x:E} {e:Ending} {a:Array Value} {t:TypeId} (hk:Wk R w W ts) (hz:W.heap[w.heap.size]? =some (.cells a t (0,0))) (h:vI R W (.ok x r) e w2):
 ∃ao cap,e= .returned (.tuple #[exV x.op x.n x.nm x.kids ao cap,.bool true])∧aj (Wk R w w2 r∧w2.heap[w.heap.size]? =some (.cells a t (0,0))∧(Im x∧gU (w.heap.size+1) w2 (λw2=>x.kids.At w2 w2.heap.size ao 0))):=by
 obtain⟨v,rfl,hv,h2,h3⟩:=h;have hl:=(aO hz);obtain⟨ao,cap,rfl,hok,hst⟩:=hv.mono hl;exact⟨ao,cap,rfl,ah ⟨hk.then h2 h3,(hk.kept h3 (aB _) hl).trans hz,hok,hst⟩⟩
set_option maxHeartbeats 1000000
section
variable (R:Rp) (ts r:bC) (x:E)
theorem aX5 (he:isName ts=true) (HX:aj (∀w,eP w R ts->Calls Tryz.prog 195 #[.pointer (some ⟨R.br,0,none⟩)] w (vI R w (.ok x r)))) (w:World) (hI:eP w R ts):
 Calls Tryz.prog 192 #[.pointer (some ⟨R.br,0,none⟩)] w (vI R w (.ok x r)):=by
 have HI:=ah hI;clear hI;go_enter Tryz.func192,Tryz.ntmps192;go_upto_region 1 with fail;generalize hW:World.alloc w _=W;have HK:aj (Wk R w W ts):=ah (by rw[<- hW];exact(Wk.start HI.o).alloc _);have HZ:aj (W.heap[w.heap.size]? =some (.cells #[.int .i64 0,.int .i64 0,.string ⟨#[]⟩,.slice none 0 0] 60 (0,0))):=ah (by rw[<- hW];exact heap_alloc_new _ _);clear hW;go_wp2_with fail;refine(pI R _ _ ⟨#[45]⟩ rfl (an9 he _) HK.o.rd).mono ?_;rintro e w0 ⟨rfl,h2⟩;have wP:=ah (HK.o.below h2);have HZ0:=jl h2 HZ;clear h2 HK HZ;have HK:=wP;have HZ:=HZ0;clear wP HZ0;go_wp2_with fail;refine(pI R _ _ ⟨#[33]⟩ rfl (an9 he _) HK.o.rd).mono ?_;rintro e w0 ⟨rfl,h2⟩;have wP:=ah (HK.o.below h2);have HZ0:=jl h2 HZ;clear h2 HK HZ;have HK:=wP;have HZ:=HZ0;clear wP HZ0;go_wp2_with fail;refine(HX.o _ HK.o.rd).mono ?_;intro e w2 h';obtain⟨ao,cap,rfl,HG⟩:=got HK.o HZ.o h';clear h' HK HZ;obtain⟨⟨y0,y1,y2,y3⟩,f0,f1,f2,f3⟩:=zA HG.o.2.1;have hlt2:w.heap.size<w2.heap.size:=(aO HG.o.2.1);unfold exV;go_wp2_with fail;exact bodyPost_ret (v:= .tuple #[exV x.op x.n x.nm x.kids ao cap,.bool true]) (by simp[results,Tryz.results192,go_sem,exV,y0,y1,y2,y3,hlt2]) rfl (Kr HG.o.1 HG.o.2.2)
theorem aq9 (HX:aj (∀w,eP w R ts->Calls Tryz.prog 192 #[.pointer (some ⟨R.br,0,none⟩)] w (vI R w (.ok x r)))) (w:World) (hI:eP w R ts):
 Calls Tryz.prog 183 #[.pointer (some ⟨R.br,0,none⟩),.int .i64 6] w (vI R w (.ok x r)):=by
 have HI:=ah hI;clear hI;go_enter Tryz.func183,Tryz.ntmps183;go_upto_region 1 with fail;generalize hW:World.alloc w _=W;have HK:aj (Wk R w W ts):=ah (by rw[<- hW];exact(Wk.start HI.o).alloc _);have HZ:aj (W.heap[w.heap.size]? =some (.cells #[.int .i64 0,.int .i64 0,.string ⟨#[]⟩,.slice none 0 0] 60 (0,0))):=ah (by rw[<- hW];exact heap_alloc_new _ _);clear hW;go_wp2_with fail;refine(HX.o _ HK.o.rd).mono ?_;intro e w2 h';obtain⟨ao,cap,rfl,HG⟩:=got HK.o HZ.o h';clear h' HK HZ;obtain⟨⟨y0,y1,y2,y3⟩,f0,f1,f2,f3⟩:=zA HG.o.2.1;have hlt2:w.heap.size<w2.heap.size:=(aO HG.o.2.1);unfold exV;go_wp2_with fail;exact bodyPost_ret (v:= .tuple #[exV x.op x.n x.nm x.kids ao cap,.bool true]) (by simp[results,Tryz.results183,go_sem,exV,y0,y1,y2,y3,hlt2]) rfl (Kr HG.o.1 HG.o.2.2)
theorem aF5 (hn:Pt r) (lv:Nat) (hlv:lv<=5) (HX:aj (∀w,eP w R ts->Calls Tryz.prog 183 #[.pointer (some ⟨R.br,0,none⟩),.int .i64 ((lv:Int)+1)] w (vI R w (.ok x r)))) (w:World) (hI:eP w R ts):
 Calls Tryz.prog 183 #[.pointer (some ⟨R.br,0,none⟩),.int .i64 (lv:Int)] w (vI R w (.ok x r)):=by
 have hq:decide ((5:Int)<(lv:Int))=false:=by rw[decide_eq_false_iff_not];omega
 have bM6:(0:Int)<=(lv:Int):=by omega
 have bM7:(lv:Int)<=6:=by omega
 have HI:=ah hI;clear hI;go_enter Tryz.func183,Tryz.ntmps183;go_upto_region 1 with fail;generalize hW:World.alloc w _=W;have HK:aj (Wk R w W ts):=ah (by rw[<- hW];exact(Wk.start HI.o).alloc _);have HZ:aj (W.heap[w.heap.size]? =some (.cells #[.int .i64 0,.int .i64 0,.string ⟨#[]⟩,.slice none 0 0] 60 (0,0))):=ah (by rw[<- hW];exact heap_alloc_new _ _);clear hW;go_wp2_with fail;refine(HX.o _ HK.o.rd).mono ?_;have tH:=HK;have HZ1:=HZ;clear HK HZ;rintro e w2 ⟨v,rfl,hv,h2,h3⟩;have qE:=ah (tH.o.then h2 h3);have HZ2:=ah ((tH.o.kept h3 (aB _) (aO HZ1.o)).trans HZ1.o);have sO:=ah (hv.mono (aO HZ1.o));clear h2 h3 tH HZ1 hv;obtain⟨ao,cap,rfl,hok,hst⟩:=sO.o;have HE:=ah (aI hok hst);clear hok hst sO;unfold exV;go_upto_region 4 with fail;generalize hW:World.alloc w2 _=W2;obtain⟨g,hg,-,-,HB3,-⟩:=oO hW;have sN:aj (Wk R w W2 r):=ah (by rw[<- hW];exact qE.o.alloc _);have HZ3:aj (W2.heap[w.heap.size]? =some (.cells #[.int .i64 0,.int .i64 0,.string ⟨#[]⟩,.slice none 0 0] 60 (0,0))):=ah (by rw[<- hW];exact(heap_alloc_old _ _ (aO HZ2.o)).trans HZ2.o);have pG:aj (Im x∧gU (w.heap.size+1) W2 (λw2=>x.kids.At w2 w2.heap.size ao 0)):=ah ⟨HE.o.1,by rw[<- hW];exact HE.o.2.next (bL (au _ _))⟩;have HG:aj (w.heap.size<g):=ah (by rw[<- hg];exact(aO HZ2.o));have HEX:aj (oz (w.heap.size+1) (some g) W2 (λw2=>x.kids.At w2 w2.heap.size ao 0)):=ah (by rw[<- hW];exact R7 HE.o.2 (bL (au _ _)) (Nat.le_of_eq hg));rw[hg];clear hW hg qE HZ2 HE;go_wp2_with fail;go_loopw [8] (λ_ wr=>wr=W2) (λ_ _=>0)
 case atStart=>rfl
 case round=>subst hrel;have HOA:aj (Calls Tryz.prog 193 #[.pointer (some ⟨R.br,0,none⟩),.int .i64 (lv:Int)] wr λe w'=>e= .returned (.int .i64 0)∧Below wr.heap.size wr w'):=ah (by have:=QM R r wr (lv:Int) sN.o.rd;rw[hn]at this;exact this);go_wp2_with fail;refine HOA.o.mono ?_;rintro e w3 ⟨rfl,h2⟩;have HK4:=ah (sN.o.below h2);have Ap:aj (Im x∧gU (w.heap.size+1) w3 (λw2=>x.kids.At w2 w2.heap.size ao 0)):=ah ⟨pG.o.1,pG.o.2.next (bL h2)⟩;obtain⟨⟨y0,y1,y2,y3⟩,f0,f1,f2,f3⟩:=zA ((h2.block _ (aO HZ3.o)).trans HZ3.o);obtain⟨⟨z0,z1,z2,z3⟩,d0,d1,d2,d3⟩:=Xe ((h2.block _ (aO HB3.o)).trans HB3.o);clear h2 sN HZ3 HB3 pG HOA HEX;go_wp2_with fail;exact bodyPost_ret (v:= .tuple #[exV x.op x.n x.nm x.kids ao cap,.bool true]) (by simp[results,Tryz.results183,go_sem,exV,y0,y1,y2,y3]) rfl (Kr HK4.o Ap.o)
theorem aT9 (HX:aj (∀w,eP w R ts->Calls Tryz.prog 183 #[.pointer (some ⟨R.br,0,none⟩),.int .i64 1] w (vI R w (.ok x r)))) (w:World) (hI:eP w R ts):
 Calls Tryz.prog 168 #[.pointer (some ⟨R.br,0,none⟩)] w (vI R w (.ok x r)):=by
 have HI:=ah hI;clear hI;go_enter Tryz.func168,Tryz.ntmps168;go_upto_region 1 with fail;generalize hW:World.alloc w _=W;have HK:aj (Wk R w W ts):=ah (by rw[<- hW];exact(Wk.start HI.o).alloc _);have HZ:aj (W.heap[w.heap.size]? =some (.cells #[.int .i64 0,.int .i64 0,.string ⟨#[]⟩,.slice none 0 0] 60 (0,0))):=ah (by rw[<- hW];exact heap_alloc_new _ _);clear hW;go_wp2_with fail;refine(HX.o _ HK.o.rd).mono ?_;intro e w2 h';obtain⟨ao,cap,rfl,HG⟩:=got HK.o HZ.o h';clear h' HK HZ;obtain⟨⟨y0,y1,y2,y3⟩,f0,f1,f2,f3⟩:=zA HG.o.2.1;have hlt2:w.heap.size<w2.heap.size:=(aO HG.o.2.1);unfold exV;go_wp2_with fail;exact bodyPost_ret (v:= .tuple #[exV x.op x.n x.nm x.kids ao cap,.bool true]) (by simp[results,Tryz.results168,go_sem,exV,y0,y1,y2,y3,hlt2]) rfl (Kr HG.o.1 HG.o.2.2)
end
theorem Tf (R:Rp) {ts r:bC} {x:E} (h:Ez ts x r) (hp: ∀w,eP w R ts->Calls Tryz.prog 195 #[.pointer (some ⟨R.br,0,none⟩)] w (vI R w (.ok x r))) (w:World) (hI:eP w R ts):
 Calls Tryz.prog 168 #[.pointer (some ⟨R.br,0,none⟩)] w (vI R w (.ok x r)):=by
 have b (n:Nat) (hn:n<=5):=aF5 R ts r x h.noop n hn;exact aT9 R ts r x (ah (b 1 (by decide) (ah (b 2 (by decide) (ah (b 3 (by decide) (ah (b 4 (by decide) (ah (b 5 (by decide) (ah (aq9 R ts r x (ah (aX5 R ts r x h.name (ah hp))))))))))))))) w hI
theorem aW4 (R:Rp): ∀ {ts r:bC} {x:E},Ez ts x r->∀w,eP w R ts->Calls Tryz.prog 195 #[.pointer (some ⟨R.br,0,none⟩)] w (vI R w (.ok x r)):=by
 intro ts r x h
 induction h with
 |nm h1 h2=>rename_i ts _;intro w hI;have HI:=ah hI;have wQ:aj ((tx (bK ts)).size<=maxLen):=ah (xA (xE hI.ts h1));clear hI;go_enter Tryz.func195,Tryz.ntmps195;go_upto_region 1 with fail;generalize hW:World.alloc w _=W;have HK:aj (Wk R w W ts):=ah (by rw[<- hW];exact(Wk.start HI.o).alloc _);have HZ:aj (W.heap[w.heap.size]? =some (.cells #[.int .i64 0,.int .i64 0,.string ⟨#[]⟩,.slice none 0 0] 60 (0,0))):=ah (by rw[<- hW];exact heap_alloc_new _ _);clear hW;go_wp2_with fail;refine(Ya R _ _ (XY h1) HK.o.rd).mono ?_;rintro e w0 ⟨rfl,h2⟩;have wP:=ah (HK.o.below h2);have HZ0:=jl h2 HZ;clear h2 HK HZ;have HK:=wP;have HZ:=HZ0;clear wP HZ0;go_wp2_with fail;refine(uJ R _ _ h1 HK.o.rd).mono ?_;rintro e w0 ⟨rfl,h2,h3⟩;have wP:=ah (HK.o.then h2 h3);have HZ0:=ah ((HK.o.kept h3 (aB _) (aO HZ.o)).trans HZ.o);clear h2 h3 HK HZ;have HK:=wP;have HZ:=HZ0;clear wP HZ0;go_wp2_with fail;refine(pI R _ _ ⟨#[91]⟩ rfl h2 HK.o.rd).mono ?_;rintro e w0 ⟨rfl,h2⟩;have wP:=ah (HK.o.below h2);have HZ0:=jl h2 HZ;clear h2 HK HZ;have HK:=wP;have HZ:=HZ0;clear wP HZ0;obtain⟨⟨y0,y1,y2,y3⟩,f0,f1,f2,f3⟩:=zA HZ.o;go_wp2_with fail;exact bodyPost_ret (v:= .tuple #[exV 2 0 (tx (bK ts)) .nil none 0,.bool true]) (by simp[results,Tryz.results195,go_sem,y0,y1,y2,y3,exV,bJ.len]) rfl (ab4 HK.o (by unfold bW;decide) Di wQ.o)
 |ix h1 h2 hx h4 hn ih=>rename_i ts r x;intro w hI;have HI:=ah hI;have HX:=ah (Tf R hx ih);have wQ:aj ((tx (bK ts)).size<=maxLen):=ah (xA (xE hI.ts h1));obtain⟨nm,Sd⟩: ∃nm,aj (tx (bK ts)=nm):=⟨_,ah rfl⟩;rw[Sd.o]at wQ⊢;clear hI ih hx hn;go_enter Tryz.func195,Tryz.ntmps195;go_upto_region 1 with fail;generalize hW:World.alloc w _=W;have HK:aj (Wk R w W ts):=ah (by rw[<- hW];exact(Wk.start HI.o).alloc _);have HZ:aj (W.heap[w.heap.size]? =some (.cells #[.int .i64 0,.int .i64 0,.string ⟨#[]⟩,.slice none 0 0] 60 (0,0))):=ah (by rw[<- hW];exact heap_alloc_new _ _);clear hW;go_wp2_with fail;refine(Ya R _ _ (XY h1) HK.o.rd).mono ?_;rintro e w0 ⟨rfl,h2⟩;have wP:=ah (HK.o.below h2);have HZ0:=jl h2 HZ;clear h2 HK HZ;have HK:=wP;have HZ:=HZ0;clear wP HZ0;go_wp2_with fail;refine(uJ R _ _ h1 HK.o.rd).mono ?_;rw[Sd.o];rintro e w0 ⟨rfl,h2,h3⟩;have wP:=ah (HK.o.then h2 h3);have HZ0:=ah ((HK.o.kept h3 (aB _) (aO HZ.o)).trans HZ.o);clear h2 h3 HK HZ;have HK:=wP;have HZ:=HZ0;clear wP HZ0;go_wp2_with fail;refine(kW R _ _ ⟨#[91]⟩ rfl h2 HK.o.rd).mono ?_;rintro e w1 ⟨rfl,h2,h3⟩;have tH:=ah (HK.o.then h2 h3);have HZ1:=ah ((HK.o.kept h3 (aB _) (aO HZ.o)).trans HZ.o);clear h2 h3 HK HZ;go_wp2_with fail;refine(HX.o _ tH.o.rd).mono ?_;rintro e w2 ⟨v,rfl,hv,h2,h3⟩;have qE:=ah (tH.o.then h2 h3);have HZ2:=ah ((tH.o.kept h3 (aB _) (aO HZ1.o)).trans HZ1.o);have sO:=ah (hv.mono (aO HZ1.o));clear h2 h3 tH HZ1 hv;obtain⟨ao,cap,rfl,hok,hst⟩:=sO.o;have HE:=ah (aI hok hst);clear hok hst sO;unfold exV;go_upto_region 9 with fail;generalize hW:World.alloc w2 _=W2;obtain⟨g,hg,-,-,HB3,-⟩:=oO hW;have sN:aj (Wk R w W2 r):=ah (by rw[<- hW];exact qE.o.alloc _);have HZ3:aj (W2.heap[w.heap.size]? =some (.cells #[.int .i64 0,.int .i64 0,.string ⟨#[]⟩,.slice none 0 0] 60 (0,0))):=ah (by rw[<- hW];exact(heap_alloc_old _ _ (aO HZ2.o)).trans HZ2.o);have pG:aj (Im x∧gU (w.heap.size+1) W2 (λw2=>x.kids.At w2 w2.heap.size ao 0)):=ah ⟨HE.o.1,by rw[<- hW];exact HE.o.2.next (bL (au _ _))⟩;have HG:aj (w.heap.size<g):=ah (by rw[<- hg];exact(aO HZ2.o));have HEX:aj (oz (w.heap.size+1) (some g) W2 (λw2=>x.kids.At w2 w2.heap.size ao 0)):=ah (by rw[<- hW];exact R7 HE.o.2 (bL (au _ _)) (Nat.le_of_eq hg));rw[hg];clear hW hg qE HZ2 HE;go_wp2_with fail;refine(kW R _ _ ⟨#[93]⟩ rfl h4 sN.o.rd).mono ?_;rintro e w3 ⟨rfl,h2,h3⟩;have qE:=ah (sN.o.then h2 h3);have HZ2:=ah ((sN.o.kept h3 (aB _) (aO HZ3.o)).trans HZ3.o);have HB2:=ah ((sN.o.kept h3 (cB HG.o) (aO HB3.o)).trans HB3.o);have HE:aj (Im x∧gU (w.heap.size+1) w3 (λw2=>x.kids.At w2 w2.heap.size ao 0)):=ah ⟨pG.o.1,pG.o.2.next (zP h3 (Nat.lt_succ_of_lt sN.o.lt))⟩;clear h2 h3 sN HZ3 HB3 pG;obtain⟨⟨y0,y1,y2,y3⟩,f0,f1,f2,f3⟩:=zA HZ2.o;obtain⟨z0,z1,z2,z3⟩:=cl4 HB2.o;have hlt2:w.heap.size<w3.heap.size:=(aO HZ2.o);have hlt3:g<w3.heap.size:=(aO HB2.o);go_wp2_with fail;exact bodyPost_ret (v:= .tuple #[exV 3 0 nm (.cons x.op x.n x.nm x.kids .nil) (some ⟨w3.heap.size,0,none⟩) 1,.bool true]) (by simp[results,Tryz.results195,go_sem,exV,bJ.len,y0,y1,y2,y3,hlt2]) rfl (aO3 wQ.o qE.o hlt2 HE.o)
theorem ar8 (R:Rp) {ts r:bC} {x:E} (h:Ez ts x r) (w:World) (hI:eP w R ts):Calls Tryz.prog 168 #[.pointer (some ⟨R.br,0,none⟩)] w (vI R w (.ok x r)):=Tf R h (aW4 R h) w hI
end Go.Proofs.YtmildapbbcbbhaaGreatDoor
end
section
namespace Go.Proofs.YtmildapbbcbbhaaGreatDoor
open Go.RowKit
open Md Pz
structure Sx where
 h:dD
 b:aY
 e:aY
structure Fr (br bs:Nat) (w w':World):Prop where
 os:w'.os=w.os
 tape:w'.tape=w.tape
 output:w'.output=w.output
 size:w.heap.size<=w'.heap.size
 block: ∀k,k<w.heap.size->k≠br->k≠bs->w'.heap[k]? =w.heap[k]?
section
variable {br bs:Nat} {w w1 w2 w':World}
theorem Fr.refl (br bs:Nat) (w:World):Fr br bs w w:=⟨rfl,rfl,rfl,aB _,λ_ _ _ _=>rfl⟩
theorem Fr.trans (h:Fr br bs w w1) (k:Fr br bs w1 w2):Fr br bs w w2:=
 ⟨k.os.trans h.os,k.tape.trans h.tape,k.output.trans h.output,aP h.size k.size,λj hj h1 h2=>(k.block j (aG hj h.size) h1 h2).trans (h.block j hj h1 h2)⟩
theorem Fr.tT (h:w.grownBy w' (some br)):Fr br bs w w':=⟨h.os,h.tape,h.output,h.size,λk hk h1 _=>h.block k hk (by simp;exact h1)⟩
theorem Fr.set (h:Fr br bs w w') (a:Addr) (v:Value) (ha:a.block=bs∨w.heap.size<=a.block):Fr br bs w (w'.setCell a v):=
 ⟨h.os,h.tape,h.output,by have:=h.size;simpa[World.setCell]using this,λk hk h1 h2=>(bf w' a v rfl (by omega)).trans (h.block k hk h1 h2)⟩
theorem Fr.alloc (h:Fr br bs w w') (o:Obj):Fr br bs w (w'.alloc o):=h.trans (Fr.tT (jL (au _ _)))
theorem Fr.gr (h:Fr br bs w1 w') (hb:Below w.heap.size w w1) (hs:w.heap.size<=bs):w.grownBy w' (some br):=
 ⟨h.os.trans hb.os,h.tape.trans hb.tape,h.output.trans hb.output,aP hb.size h.size,λk hk h1=>(h.block k (aG hk hb.size) (by simpa using h1) (by omega)).trans (hb.block k hk)⟩
end
def zS:Sl:=⟨none,0,none,0,none,0,none,0⟩
structure Pm (R:Rp) (bs B:Nat) (w:World) (x:bP) (rest:bC):Prop where
 rd:eP w R rest
 lt:bs<B∧R.br<B
 ne:bs≠R.br
 b0:R.B0<=bs
 sz:B<=w.heap.size
 blk:w.heap[bs]? =some (.cells (bP.f x).toArray 62 (0,0))
 ok:vK x.h x.b x.e
 st:gU B w (bP.I x)
section
variable {R:Rp} {bs B:Nat} {w W W':World} {x:bP} {rest rest':bC}
theorem Pm.then (h:Pm R bs B W x rest) (h1:eP W' R rest') (h2:W.grownBy W' (some R.br)):Pm R bs B W' x rest':=
 ⟨h1,h.lt,h.ne,h.b0,aP h.sz h2.size,(h2.block _ (aG h.lt.1 h.sz) (by simp;exact h.ne)).trans h.blk,h.ok,h.st.next (zP h2 h.lt.2)⟩
theorem Pm.below (h:Pm R bs B W x rest) (hb:Below W.heap.size W W'):Pm R bs B W' x rest:=h.then (h.rd.below hb) (jL hb)
theorem Pm.alloc (h:Pm R bs B W x rest) (o:Obj):Pm R bs B (W.alloc o) x rest:=h.below (au _ _)
theorem Pm.put (h:Pm R bs B W x rest) (j:Nat) (v:Value) {y:bP} (hy:(bP.f x).toArray.setIfInBounds j v=(bP.f y).toArray) (hok:vK y.h y.b y.e) (hst:gU B W (bP.I y)):Pm R bs B (W.setCell ⟨bs,j,none⟩ v) y rest:=
 ⟨uQ h.rd _ v h.b0 h.ne,h.lt,h.ne,h.b0,by have:=h.sz;simpa[World.setCell]using this,by rw[dh h.blk,hy],hok,hst.next (iF W ⟨bs,j,none⟩ v h.lt.1)⟩
theorem Pm.nm (h:Pm R bs B W x rest) (s:ByteArray) (hs:s.size<=maxLen):Pm R bs B (W.setCell ⟨bs,2,none⟩ (.string s)) ⟨{x.h with nm:=s},x.b,x.e,x.s⟩ rest:=
 h.put 2 _ rfl ⟨h.ok.1,h.ok.2.1,hs,h.ok.2.2.2⟩ h.st
theorem Pm.arg (h:Pm R bs B W x rest) (s:ByteArray) (hs:s.size<=maxLen):Pm R bs B (W.setCell ⟨bs,3,none⟩ (.string s)) ⟨{x.h with arg:=s},x.b,x.e,x.s⟩ rest:=
 h.put 3 _ rfl ⟨h.ok.1,h.ok.2.1,h.ok.2.2.1,hs,h.ok.2.2.2.2⟩ h.st
theorem Pm.op (h:Pm R bs B W x rest) (n:Int) (hn:bW n):Pm R bs B (W.setCell ⟨bs,0,none⟩ (.int .i64 n)) ⟨{x.h with op:=n},x.b,x.e,x.s⟩ rest:=
 h.put 0 _ rfl ⟨hn,h.ok.2⟩ h.st
theorem Pm.idx (h:Pm R bs B W x rest) (l:bJ) (ao:Option Addr) (cap:Nat) (hl:l.len<=maxLen) (hst:gU B W (λw2=>l.At w2 w2.heap.size ao 0)):
 Pm R bs B (W.setCell ⟨bs,4,none⟩ (.slice ao l.len cap)) ⟨{x.h with idx:=l},x.b,x.e,{x.s with fQ:=ao,eU:=cap}⟩ rest:=
 h.put 4 _ rfl ⟨h.ok.1,h.ok.2.1,h.ok.2.2.1,h.ok.2.2.2.1,hl,h.ok.2.2.2.2.2⟩ (λw2 h2=>⟨hst w2 h2,(h.st w2 h2).2⟩)
theorem Pm.body (h:Pm R bs B W x rest) (l:aY) (ao:Option Addr) (cap:Nat) (hl:l.len<=maxLen) (hst:gU B W (λw2=>l.At w2 w2.heap.size ao 0)):
 Pm R bs B (W.setCell ⟨bs,9,none⟩ (.slice ao l.len cap)) ⟨x.h,l,x.e,{x.s with dH:=ao,cu:=cap}⟩ rest:=
 h.put 9 _ rfl ⟨h.ok.1,h.ok.2.1,h.ok.2.2.1,h.ok.2.2.2.1,h.ok.2.2.2.2.1,h.ok.2.2.2.2.2.1,hl,h.ok.2.2.2.2.2.2.2⟩ (λw2 h2=>⟨(h.st w2 h2).1,(h.st w2 h2).2.1,hst w2 h2,(h.st w2 h2).2.2.2⟩)
theorem Pm.els (h:Pm R bs B W x rest) (l:aY) (ao:Option Addr) (cap:Nat) (hl:l.len<=maxLen) (hst:gU B W (λw2=>l.At w2 w2.heap.size ao 0)):
 Pm R bs B (W.setCell ⟨bs,10,none⟩ (.slice ao l.len cap)) ⟨x.h,x.b,l,{x.s with iC:=ao,gy:=cap}⟩ rest:=
 h.put 10 _ rfl ⟨h.ok.1,h.ok.2.1,h.ok.2.2.1,h.ok.2.2.2.1,h.ok.2.2.2.2.1,h.ok.2.2.2.2.2.1,h.ok.2.2.2.2.2.2.1,hl⟩ (λw2 h2=>⟨(h.st w2 h2).1,(h.st w2 h2).2.1,(h.st w2 h2).2.2.1,hst w2 h2⟩)
def VH (w:World) (b:Nat) (v0 v1 v2 v3:Value):World:=(((w.setCell ⟨b,5,none⟩ v0).setCell ⟨b,6,none⟩ v1).setCell ⟨b,7,none⟩ v2).setCell ⟨b,8,none⟩ v3
theorem Pm.ex (h:Pm R bs B W x rest) (y:E) (ao:Option Addr) (cap:Nat) (hy:Im y) (hst:gU B W (λw2=>y.kids.At w2 w2.heap.size ao 0)):
 Pm R bs B (VH W bs (.int .i64 y.op) (.int .i64 y.n) (.string y.nm) (.slice ao y.kids.len cap)) ⟨dD.ex x.h y,x.b,x.e,{x.s with fT:=ao,eu:=cap}⟩ rest:=by
 have ha:kG B W (VH W bs (.int .i64 y.op) (.int .i64 y.n) (.string y.nm) (.slice ao y.kids.len cap)):=by have x1:kG B W _:=iF W ⟨bs,5,none⟩ (.int .i64 y.op) h.lt.1;have x2:=x1.trans (iF _ ⟨bs,6,none⟩ (.int .i64 y.n) h.lt.1);have x3:=x2.trans (iF _ ⟨bs,7,none⟩ (.string y.nm) h.lt.1);exact x3.trans (iF _ ⟨bs,8,none⟩ (.slice ao y.kids.len cap) h.lt.1)
 refine⟨uQ (uQ (uQ (uQ h.rd _ _ h.b0 h.ne) _ _ h.b0 h.ne) _ _ h.b0 h.ne) _ _ h.b0 h.ne,h.lt,h.ne,h.b0,aP h.sz ha.1,?_,⟨h.ok.1,h.ok.2.1,h.ok.2.2.1,h.ok.2.2.2.1,h.ok.2.2.2.2.1,hy,h.ok.2.2.2.2.2.2⟩,?_⟩
 ·unfold VH;rw[dh (dh (dh (dh h.blk _) _) _) _];rfl
 ·exact λw2 h2=>⟨(h.st w2 (ha.trans h2)).1,hst w2 (ha.trans h2),(h.st w2 (ha.trans h2)).2.2⟩
theorem Pm.cell (h:Pm R bs B W x rest) {j:Nat} {u:Value} (hu:(bP.f x).toArray[j]? =some u):W.cell? ⟨bs,j,none⟩=some u:=aQ h.blk hu
theorem Pm.free (h:Pm R bs B W x rest) (j:Nat):W.frozen? ⟨bs,j,none⟩=false:=bH h.blk
end
def UJ (R:Rp) (bs B:Nat) (w:World) (res:ow Sx) (e:Ending) (w':World):Prop:=
 match res with
 | .ok y r=>e= .returned (.bool true)∧(∃s,Pm R bs B w' ⟨y.h,y.b,y.e,s⟩ r)∧Fr R.br bs w w'
 | .no r=>e= .returned (.bool false)∧(∃x,Pm R bs B w' x r)∧Fr R.br bs w w'
def bj8 (R:Rp) (w:World) (res:ow aY) (e:Ending) (w':World):Prop:=
 match res with
 | .ok b r=>(∃ao cap,e= .returned (.tuple #[.slice ao b.len cap,.bool true])∧b.len<=4096∧gU w.heap.size w' (λw2=>b.At w2 w2.heap.size ao 0))∧eP w' R r∧w.grownBy w' (some R.br)
 | .no r=>e= .returned (.tuple #[.slice none 0 0,.bool false])∧eP w' R r∧w.grownBy w' (some R.br)
theorem R9 {R:Rp} {bs B:Nat} {w W:World} {y:Sx} {s:Sl} {r:bC} (h:Pm R bs B W ⟨y.h,y.b,y.e,s⟩ r) (hf:Fr R.br bs w W):UJ R bs B w (.ok y r) (.returned (.bool true)) W:=⟨rfl,⟨s,h⟩,hf⟩
theorem aX9:Im ⟨0,0,⟨#[]⟩,.nil⟩:=⟨Di,Di,bT _,bT _⟩
def Dt:Array Value:= #[.int .i64 0,.int .i64 0,.string ⟨#[]⟩,.string ⟨#[]⟩,.slice none 0 0,.int .i64 0,.int .i64 0,.string ⟨#[]⟩,.slice none 0 0,.slice none 0 0,.slice none 0 0]
theorem CB {w w':World} {R:Rp} {rest:bC} {b:Nat} (h:eP w R rest) (hg:w.grownBy w' (some b)) (h0:R.B0<=b) (h1:b≠R.br):eP w' R rest:=by
 obtain⟨pos,k1,k2,k3⟩:=h.blk;exact⟨⟨pos,k1,k2,(hg.block _ h.lt (by simp;omega)).trans k3⟩,h.tok.below (cZ hg h0 (aP R.b0 (cB h.lt))),h.ok,h.tl⟩
theorem vX {br:Nat} {w w':World} (h:w.grownBy w' (some br)) (b o:Nat) (vs:List Value) (hb:w.heap.size<=b):w.grownBy (w'.setCells b o vs) (some br):=
 have k:=dX b vs o w'
 ⟨k.os.trans h.os,k.tape.trans h.tape,k.output.trans h.output,aP h.size k.size,λj hj hn=>(k.block j (aG hj h.size) (by simp;omega)).trans (h.block j hj hn)⟩
def aE6 (R:Rp) (w:World) (y:Sx) (r:bC) (e:Ending) (w':World):Prop:= ∃s,e= .returned (.tuple #[iy y.h y.b y.e s,.bool true])∧(vK y.h y.b y.e∧gU w.heap.size w' (bP.I ⟨y.h,y.b,y.e,s⟩))∧eP w' R r∧w.grownBy w' (some R.br)
theorem Yp {R:Rp} {bs B:Nat} {w W:World} {y:Sx} {s:Sl} {r:bC} (hP:Pm R bs B W ⟨y.h,y.b,y.e,s⟩ r) (hg:w.grownBy W (some R.br)) (hl:R.br<w.heap.size) (hB:w.heap.size<B):
 aE6 R w y r (.returned (.tuple #[iy y.h y.b y.e s,.bool true])) (W.setCells w.heap.size 0 (bP.f ⟨y.h,y.b,y.e,s⟩)):=
 ⟨s,rfl,⟨hP.ok,(hP.st.next ⟨(dX w.heap.size _ 0 W).size,λk h1 h2=>(dX w.heap.size _ 0 W).block k h2 (by simp;omega)⟩).mono (cB hB)⟩,CB hP.rd (dX _ _ _ _) (by have:=R.b0;omega) (by omega),vX hg _ _ _ (aB _)⟩
theorem z11 {w:World} {b:Nat} {t:TypeId} (h:w.heap[b]? =some (.cells Dt t (0,0))):
 (w.cell? ⟨b,0,none⟩=some (.int .i64 0)∧w.cell? ⟨b,1,none⟩=some (.int .i64 0)∧w.cell? ⟨b,2,none⟩=some (.string ⟨#[]⟩)∧w.cell? ⟨b,3,none⟩=some (.string ⟨#[]⟩)∧w.cell? ⟨b,4,none⟩=some (.slice none 0 0)∧w.cell? ⟨b,5,none⟩=some (.int .i64 0)∧w.cell? ⟨b,6,none⟩=some (.int .i64 0)∧w.cell? ⟨b,7,none⟩=some (.string ⟨#[]⟩)∧w.cell? ⟨b,8,none⟩=some (.slice none 0 0)∧w.cell? ⟨b,9,none⟩=some (.slice none 0 0)∧w.cell? ⟨b,10,none⟩=some (.slice none 0 0))∧∀j,w.frozen? ⟨b,j,none⟩=false:=
 ⟨⟨aQ h rfl,aQ h rfl,aQ h rfl,aQ h rfl,aQ h rfl,aQ h rfl,aQ h rfl,aQ h rfl,aQ h rfl,aQ h rfl,aQ h rfl⟩,λ_=>bH h⟩
theorem QO {R:Rp} {bs B:Nat} {W:World} {x:bP} {r:bC} (h:Pm R bs B W x r):
 W.cell? ⟨bs,0,none⟩=some (.int .i64 x.h.op)∧W.cell? ⟨bs,1,none⟩=some (.int .i64 x.h.line)∧W.cell? ⟨bs,2,none⟩=some (.string x.h.nm)∧W.cell? ⟨bs,3,none⟩=some (.string x.h.arg)∧W.cell? ⟨bs,4,none⟩=some (.slice x.s.fQ x.h.idx.len x.s.eU)∧W.cell? ⟨bs,5,none⟩=some (.int .i64 x.h.dN)∧W.cell? ⟨bs,6,none⟩=some (.int .i64 x.h.xn)∧W.cell? ⟨bs,7,none⟩=some (.string x.h.dJ)∧W.cell? ⟨bs,8,none⟩=some (.slice x.s.fT x.h.bG.len x.s.eu)∧W.cell? ⟨bs,9,none⟩=some (.slice x.s.dH x.b.len x.s.cu)∧W.cell? ⟨bs,10,none⟩=some (.slice x.s.iC x.e.len x.s.gy):=
 ⟨h.cell rfl,h.cell rfl,h.cell rfl,h.cell rfl,h.cell rfl,h.cell rfl,h.cell rfl,h.cell rfl,h.cell rfl,h.cell rfl,h.cell rfl⟩
theorem R4 {R:Rp} {w w1:World} {ts:bC} {kv:Value} {sv:Value} (hI:eP w R ts) (hB:Below w.heap.size w w1) (hz:w1.heap[w.heap.size]? =some (.cells Dt 62 (0,0))) (hL:bW ((fP ts:Nat):Int)) (gt:Nat) (hg:w1.heap.size=gt):
 ∀W,((w1.alloc (.cells #[kv,sv,.int .i64 ((fP ts:Nat):Int)] 156)).alloc (.cells #[.int .i64 0,.int .i64 ((fP ts:Nat):Int),.string ⟨#[]⟩,.string ⟨#[]⟩,.slice none 0 0,.int .i64 0,.int .i64 0,.string ⟨#[]⟩,.slice none 0 0,.slice none 0 0,.slice none 0 0] 62))=W->
 Pm R (gt+1) (gt+2) W ⟨hd 0 ((fP ts:Nat):Int),.nil,.nil,zS⟩ ts∧Below w.heap.size w W∧W.heap[w.heap.size]? =some (.cells Dt 62 (0,0))∧W.cell? ⟨gt,0,none⟩=some kv∧W.cell? ⟨gt,1,none⟩=some sv∧w.heap.size<gt:=by
 intro W hW;have h0:=(aO hz);have hb1:Below w.heap.size w (w1.alloc (.cells #[kv,sv,.int .i64 ((fP ts:Nat):Int)] 156)):=hB.alloc hB.size _;have ht:(w1.alloc (.cells #[kv,sv,.int .i64 ((fP ts:Nat):Int)] 156)).heap[gt]? =some (.cells #[kv,sv,.int .i64 ((fP ts:Nat):Int)] 156 (0,0)):=by rw[<- hg];exact heap_alloc_new _ _
 have hz1:(w1.alloc (.cells #[kv,sv,.int .i64 ((fP ts:Nat):Int)] 156)).heap[w.heap.size]? =some (.cells Dt 62 (0,0)):=(heap_alloc_old _ _ h0).trans hz;have hs1:(w1.alloc (.cells #[kv,sv,.int .i64 ((fP ts:Nat):Int)] 156)).heap.size=gt+1:=by simp[hg]
 generalize w1.alloc (.cells #[kv,sv,.int .i64 ((fP ts:Nat):Int)] 156)=W1 at *;have hb2:Below w.heap.size w W:=by rw[<- hW];exact hb1.alloc hb1.size _
 have ht2:W.heap[gt]? =some (.cells #[kv,sv,.int .i64 ((fP ts:Nat):Int)] 156 (0,0)):=by rw[<- hW];exact(heap_alloc_old _ _ (aO ht)).trans ht
 refine⟨⟨hI.below hb2,⟨by omega,by have:=hI.lt;omega⟩,by have:=hI.lt;omega,by have:=hI.lt;have:=R.b0;omega,by rw[<- hW];simp;omega,by rw[<- hW,<- hs1];exact heap_alloc_new _ _,⟨Di,hL,bT _,bT _,bT _,aX9,bT _,bT _⟩,λ_ _=>⟨trivial,trivial,trivial,trivial⟩⟩,hb2,?_,aQ ht2 rfl,aQ ht2 rfl,by omega⟩;rw[<- hW];exact(heap_alloc_old _ _ (aO hz1)).trans hz1
theorem F6 {w:World} {R:Rp} {ts:bC} (hI:eP w R ts):bW ((fP ts:Nat):Int):=by
 cases ts with
 |nil=>exact Di
 |cons t r=>have:=(hI.tsl t (by simp)).1;show bW (t.line:Int);unfold bW;omega
theorem Ia {br bs k:Nat} {w w':World} {o:Obj} (h:Fr br bs w w') (hk:w.heap[k]? =some o) (h1:k≠br) (h2:k≠bs):w'.heap[k]? =some o:=(h.block k (aO hk) h1 h2).trans hk
theorem as3:(Tryz.prog.info? 62).map (λi=>(i.zero,i.size,i.bytes))=some (some (.agg Dt),11,176):=by kernel_rfl
theorem aN4: ∃i0,Tryz.prog.info? 62=some i0∧i0.zero=some (.agg Dt)∧i0.size=11∧i0.bytes=176:=info_parts as3
theorem af7 (x:bP): ∀u∈bP.f x,u.oneCell'=true:=by
 intro u hu;simp[bP.f]at hu;rcases hu with rfl|rfl|rfl|rfl|rfl|rfl|rfl|rfl|rfl|rfl|rfl <;> rfl
theorem vU {B:Nat} {w w':World} {g:Option Nat} (h:w.grownBy w' g) (hg: ∀k,g=some k->B<=k) (hB:B<=w.heap.size):Below B w w':=
 ⟨h.os,h.tape,h.output,h.size,λk hk=>h.block k (by omega) (λe=>by have:=hg k e.symm;omega)⟩
theorem Lf {w w':World} {R:Rp} {rest:bC} {g:Option Nat} (h:eP w R rest) (hg:w.grownBy w' g) (h0: ∀k,g=some k->R.B0<=k∧k≠R.br):eP w' R rest:=by
 obtain⟨pos,k1,k2,k3⟩:=h.blk;exact⟨⟨pos,k1,k2,(hg.block _ h.lt (λe=>(h0 _ e.symm).2 rfl)).trans k3⟩,h.tok.below (vU hg (λk hk=>(h0 k hk).1) (aP R.b0 (cB h.lt))),h.ok,h.tl⟩
theorem KE {br:Nat} {w w1 w2:World} (h:w.grownBy w1 (some br)) (hb:Below w.heap.size w1 w2):w.grownBy w2 (some br):=
 ⟨hb.os.trans h.os,hb.tape.trans h.tape,hb.output.trans h.output,aP h.size hb.size,λk hk hn=>(hb.block k hk).trans (h.block k hk hn)⟩
def Eh (R:Rp) (ts:bC) (y:Sx) (r:bC):Prop:= ∀w,eP w R ts->Calls Tryz.prog 151 #[.pointer (some ⟨R.br,0,none⟩)] w (aE6 R w y r)
def uT (R:Rp) (ts:bC) (b:aY) (r:bC):Prop:= ∀w,eP w R ts->Calls Tryz.prog 142 #[.pointer (some ⟨R.br,0,none⟩)] w (bj8 R w (.ok b r))
set_option maxHeartbeats 4000000
theorem aF3 (R:Rp) (bs B:Nat) (r q:bC) (x:E) (h:dD) (s:Sl) (w:World) (hp:Pm R bs B w ⟨h,.nil,.nil,s⟩ r) (hn:isName r=true) (h1:at' [91] r.tail=false) (h5:at' [61] r.tail=true) (hx:Ez r.tail.tail x q) (h4:at' [59] q=true):
 Calls Tryz.prog 161 #[.pointer (some ⟨R.br,0,none⟩),.pointer (some ⟨bs,0,none⟩)] w (UJ R bs B w (.ok ⟨dD.ex {h with nm:=tx (bK r)} x,.nil,.nil⟩ q.tail)):=by
 have HP:=ah hp;have wQ:aj ((tx (bK r)).size<=maxLen):=ah (xA (xE hp.rd.ts hn));have HC:=ah (ar8 R hx);clear hp hx;go_enter Tryz.func161,Tryz.ntmps161;go_wp2_with fail;refine(uJ R _ _ hn HP.o.rd).mono ?_;rintro e w1 ⟨rfl,h2,h3⟩;have lU:=ah (HP.o.then h2 h3);have HF:=ah (Fr.tT (br:=R.br) (bs:=bs) h3);clear h2 h3 HP;have c2:=lU.o.cell (j:=2) rfl;have f2:=lU.o.free 2;go_upto_region 3 with fail;generalize hW:World.setCell w1 _ _=W;have jO:aj (Pm R bs B W ⟨{h with nm:=tx (bK r)},.nil,.nil,s⟩ r.tail):=ah (by rw[<- hW];exact lU.o.nm _ wQ.o);have yN:aj (Fr R.br bs w W):=ah (by rw[<- hW];exact HF.o.set _ _ (.inl rfl));clear hW c2 f2 lU HF;go_wp2_with fail;refine(pI R _ _ ⟨#[91]⟩ rfl h1 jO.o.rd).mono ?_;rintro e w0 ⟨rfl,h2⟩;have ug:=ah (jO.o.below h2);have HF6:=ah (yN.o.trans (Fr.tT (jL h2)));clear h2 jO yN;go_wp2_with fail;refine(kW R _ _ ⟨#[61]⟩ rfl h5 ug.o.rd).mono ?_;rintro e w7 ⟨rfl,h2,h3⟩;have CV:=ah (ug.o.then h2 h3);have HF7:=ah (HF6.o.trans (Fr.tT h3));clear h2 h3 ug HF6;go_wp2_with fail;refine(HC.o _ CV.o.rd).mono ?_;rintro e w3 ⟨v,rfl,hv,h2,h3⟩;have oM:=ah (CV.o.then h2 h3);have Aq:=ah (HF7.o.trans (Fr.tT h3));have HV:=ah (hv.mono CV.o.sz);clear h2 h3 hv CV HF7;obtain⟨ao,cap,rfl,hok,hst⟩:=HV.o;have HE:=ah (aI hok hst);clear hok hst HV;have c5:=oM.o.cell (j:=5) rfl;have c6:=oM.o.cell (j:=6) rfl;have c7:=oM.o.cell (j:=7) rfl;have c8:=oM.o.cell (j:=8) rfl;have f5:=oM.o.free 5;have f6:=oM.o.free 6;have f7:=oM.o.free 7;have f8:=oM.o.free 8;unfold exV;go_upto_region 13 with fail;generalize hW:World.setCell (World.setCell (World.setCell (World.setCell w3 _ _) _ _) _ _) _ _=W5;have P5:aj (Pm R bs B W5 ⟨dD.ex {h with nm:=tx (bK r)} x,.nil,.nil,{s with fT:=ao,eu:=cap}⟩ q):=ah (by rw[<- hW];exact oM.o.ex x ao cap HE.o.1 HE.o.2);have HF5:aj (Fr R.br bs w W5):=ah (by rw[<- hW];exact(((Aq.o.set _ _ (.inl rfl)).set _ _ (.inl rfl)).set _ _ (.inl rfl)).set _ _ (.inl rfl));clear hW c5 c6 c7 c8 f5 f6 f7 f8 oM Aq HE;go_wp2_with fail;refine(kW R _ _ ⟨#[59]⟩ rfl h4 P5.o.rd).mono ?_;rintro e w3 ⟨rfl,h2,h3⟩;have oM:=ah (P5.o.then h2 h3);have Aq:=ah (HF5.o.trans (Fr.tT h3));clear h2 h3;go_wp2_with fail;go_ret;exact R9 (y:=⟨dD.ex {h with nm:=tx (bK r)} x,.nil,.nil⟩) oM.o Aq.o
theorem ad8 (R:Rp) (bs B:Nat) (r q:bC) (b:aY) (iw:aj (uT R r b q)) (h:dD) (s:Sl) (w:World) (hp:Pm R bs B w ⟨h,.nil,.nil,s⟩ r):
 Calls Tryz.prog 172 #[.pointer (some ⟨R.br,0,none⟩),.pointer (some ⟨bs,0,none⟩)] w (UJ R bs B w (.ok ⟨h,b,.nil⟩ q)):=by
 have HP:=ah hp;have HC:=ah (iw.o w hp.rd);clear hp iw;go_enter Tryz.func172,Tryz.ntmps172;go_wp2_with fail;refine HC.o.mono ?_;rintro e w1 ⟨⟨ao,cap,rfl,hl,hst⟩,h2,h3⟩;have lU:=ah (HP.o.then h2 h3);have HF:=ah (Fr.tT (bs:=bs) h3);have HL:aj (b.len<=maxLen):=ah (aP hl (by unfold maxLen;decide));have HS:=ah (hst.mono HP.o.sz);clear h2 h3 HP hl hst;have c9:=lU.o.cell (j:=9) rfl;have f9:=lU.o.free 9;go_wp2_with fail;go_ret;exact R9 (y:=⟨h,b,.nil⟩) (lU.o.body b ao cap HL.o HS.o) (HF.o.set _ _ (.inl rfl))
theorem O9 (R:Rp) (bs B:Nat) (r q:bC) (b:aY) (hn:isName r=true) (iw:aj (uT R r.tail b q)) (h:dD) (s:Sl) (w:World) (hp:Pm R bs B w ⟨h,.nil,.nil,s⟩ r):
 Calls Tryz.prog 171 #[.pointer (some ⟨R.br,0,none⟩),.pointer (some ⟨bs,0,none⟩)] w (UJ R bs B w (.ok ⟨{h with nm:=tx (bK r)},b,.nil⟩ q)):=by
 have HP:=ah hp;have wQ:aj ((tx (bK r)).size<=maxLen):=ah (xA (xE HP.o.rd.ts hn));have HC:=ah (ad8 R bs B r.tail q b iw {h with nm:=tx (bK r)} s);clear hp iw;go_enter Tryz.func171,Tryz.ntmps171;go_wp2_with fail;refine(uJ R _ _ hn HP.o.rd).mono ?_;rintro e w1 ⟨rfl,h2,h3⟩;have lU:=ah (HP.o.then h2 h3);have HF:=ah (Fr.tT (br:=R.br) (bs:=bs) h3);clear h2 h3 HP;have c2:=lU.o.cell (j:=2) rfl;have f2:=lU.o.free 2;go_upto_region 3 with fail;generalize hW:World.setCell w1 _ _=W;have jO:aj (Pm R bs B W ⟨{h with nm:=tx (bK r)},.nil,.nil,s⟩ r.tail):=ah (by rw[<- hW];exact lU.o.nm _ wQ.o);have yN:aj (Fr R.br bs w W):=ah (by rw[<- hW];exact HF.o.set _ _ (.inl rfl));clear hW c2 f2 lU HF;go_wp2_with fail;refine(HC.o _ jO.o).mono ?_;rintro e w3 ⟨rfl,⟨x,h2⟩,h3⟩;have oM:=ah h2;have Aq:=ah (yN.o.trans h3);clear h2 h3;go_wp2_with fail;go_ret;exact R9 (y:=⟨{h with nm:=tx (bK r)},b,.nil⟩) oM.o Aq.o
theorem av7 (R:Rp) (ts q:bC) (x:E) (h1:nextK ts=1) (h2:at' [91] ts.tail=false) (h5:at' [61] ts.tail=true) (hx:Ez ts.tail.tail x q) (h4:at' [59] q=true):
 Eh R ts ⟨dD.ex {hd 1 ((fP ts:Nat):Int)with nm:=tx (bK ts)} x,.nil,.nil⟩ q.tail:=by
 intro w hI;have hn:isName ts=true:=by unfold isName;rw[h1];rfl
 have hk:=h1;clear h1;have RS:=ah (λgt W hP=>aF3 R (gt+1) (gt+2) ts q x (hd 1 ((fP ts:Nat):Int)) zS W hP hn h2 h5 hx h4);obtain⟨Y,HY⟩: ∃Y:Sx,aj ((⟨dD.ex {hd 1 ((fP ts:Nat):Int)with nm:=tx (bK ts)} x,.nil,.nil⟩:Sx)=Y):=⟨_,ah rfl⟩;rw[HY.o]at RS⊢;clear h2 h5 hx h4 HY hn;have HI:=ah hI;have HL:=ah (F6 hI);have hlt:=hI.lt;go_enter Tryz.func151,Tryz.ntmps151;go_upto_region 1 with fail;generalize hW:World.alloc w _=W0;have HB0:aj (Below w.heap.size w W0):=ah (by rw[<- hW];exact au _ _);have HZ0:aj (W0.heap[w.heap.size]? =some (.cells Dt 62 (0,0))):=ah (by rw[<- hW];exact heap_alloc_new _ _);have HN:=ah (qW R ts W0 (HI.o.below HB0.o));unfold wL at HN;rw[hk]at HN;clear hW hI hk;go_wp2_with fail;refine HN.o.mono ?_;rintro e w1 ⟨rfl,h2⟩;have HB1:=ah (HB0.o.trans (h2.mono HB0.o.size));have HZ1:=jl h2 HZ0;clear h2 HN HB0 HZ0;go_upto_region 3 with fail;obtain⟨gt,hg⟩: ∃g,w1.heap.size=g:=⟨_,rfl⟩;rw[hg];generalize hW:World.alloc (World.alloc w1 _) _=W2;have jO:=ah (R4 HI.o HB1.o HZ1.o HL.o gt hg W2 hW);have e0:=jO.o.2.2.2.1;have e1:=jO.o.2.2.2.2.1;have kL:aj (R.br<w.heap.size∧w.heap.size<gt):=ah ⟨hlt,jO.o.2.2.2.2.2⟩;clear hW hg HB1 HZ1;have f0:=jO.o.1.free 0;have c0:=jO.o.1.cell (j:=0) rfl;go_upto_region 6 with fail;generalize hW:World.setCell W2 _ _=W3;have oM:aj (Pm R (gt+1) (gt+2) W3 ⟨hd 1 ((fP ts:Nat):Int),.nil,.nil,zS⟩ ts):=ah (by rw[<- hW];exact jO.o.1.op 1 (by unfold bW;decide));have Aq:aj (Fr R.br (gt+1) W2 W3):=ah (by rw[<- hW];exact(Fr.refl _ _ _).set _ _ (.inl rfl));clear hW f0 c0 e0 e1;have HC:=ah (RS.o gt W3 oM.o);clear RS;go_wp2_with fail;refine HC.o.mono ?_;rintro e w4 ⟨rfl,⟨s,h2⟩,h3⟩;have vk:=ah h2;have OO:=ah (Aq.o.trans h3);clear h2 h3;have xP:=ah (Ia OO.o jO.o.2.2.1 (by have:=kL.o;omega) (by have:=kL.o;omega));obtain⟨⟨y0,y1,y2,y3,y4,y5,y6,y7,y8,y9,jy⟩,fz⟩:=z11 xP.o;have z0:=fz 0;have z1:=fz 1;have z2:=fz 2;have z3:=fz 3;have z4:=fz 4;have z5:=fz 5;have z6:=fz 6;have z7:=fz 7;have z8:=fz 8;have z9:=fz 9;have fV:=fz 10;obtain⟨d0,d1,d2,d3,d4,d5,d6,d7,d8,d9,rV⟩:=QO vk.o;clear fz;go_wp2_with fail;exact bodyPost_ret (v:= .tuple #[iy Y.h Y.b Y.e s,.bool true]) (by simp[results,Tryz.results151,go_sem,iy,y0,y1,y2,y3,y4,y5,y6,y7,y8,y9,jy]) rfl (Yp vk.o (OO.o.gr jO.o.2.1 (by have:=kL.o;omega)) kL.o.1 (by have:=kL.o;omega))
theorem ar6 (w:World):(binOp .eql 219 (.func (.func 171) #[] #[]) .nilFunc).run Tryz.prog w= .ok (.bool false) w:=by kernel_rfl
theorem af6 (R:Rp) (ts q:bC) (b:aY) (h1:nextK ts=3) (h2:R3 (bK ts)=4) (hn:isName ts.tail=true) (iw:aj (uT R ts.tail.tail b q)):
 Eh R ts ⟨{hd 4 ((fP ts:Nat):Int)with nm:=tx (bK ts.tail)},b,.nil⟩ q:=by
 intro w hI;obtain⟨t0,r0,hr⟩: ∃t r,ts=t::r:=by
  cases ts with
  |nil=>exact absurd h1 (by simp[nextK])
  |cons t r=>exact⟨t,r,rfl⟩
 have MX:=ah hr;have HRE:aj (∀w,Calls Tryz.prog 162 #[.string (tx (bK ts))] w λe w'=>e= .returned (.tuple #[.int .i64 4,.func (.func 171) #[] #[]])∧w=w'):=ah (λw=>by have:=ae0 (tx (bK ts)) (l:=bK ts) rfl w;rw[h2]at this;exact this);have hk:=h1;have RS:=ah (λgt W hP=>O9 R (gt+1) (gt+2) ts.tail q b hn iw (hd 4 ((fP ts:Nat):Int)) zS W hP);obtain⟨Y,HY⟩: ∃Y:Sx,aj ((⟨{hd 4 ((fP ts:Nat):Int)with nm:=tx (bK ts.tail)},b,.nil⟩:Sx)=Y):=⟨_,ah rfl⟩;rw[HY.o]at RS⊢;clear h1 h2 hr HY hn iw;have hnf:=ar6;have HI:=ah hI;have HL:=ah (F6 hI);have hlt:=hI.lt;go_enter Tryz.func151,Tryz.ntmps151;go_upto_region 1 with fail;generalize hW:World.alloc w _=W0;have HB0:aj (Below w.heap.size w W0):=ah (by rw[<- hW];exact au _ _);have HZ0:aj (W0.heap[w.heap.size]? =some (.cells Dt 62 (0,0))):=ah (by rw[<- hW];exact heap_alloc_new _ _);have HN:=ah (qW R ts W0 (HI.o.below HB0.o));unfold wL at HN;rw[hk]at HN;clear hW hI hk;go_wp2_with fail;refine HN.o.mono ?_;rintro e w1 ⟨rfl,h2⟩;have HB1:=ah (HB0.o.trans (h2.mono HB0.o.size));have HZ1:=jl h2 HZ0;clear h2 HN HB0 HZ0;go_upto_region 3 with fail;obtain⟨gt,hg⟩: ∃g,w1.heap.size=g:=⟨_,rfl⟩;rw[hg];generalize hW:World.alloc (World.alloc w1 _) _=W2;have jO:=ah (R4 HI.o HB1.o HZ1.o HL.o gt hg W2 hW);have e0:=jO.o.2.2.2.1;have e1:=jO.o.2.2.2.2.1;have kL:aj (R.br<w.heap.size∧w.heap.size<gt):=ah ⟨hlt,jO.o.2.2.2.2.2⟩;clear hW hg HB1 HZ1;go_wp2_with fail;refine(HRE.o _).mono ?_;rintro e w3 ⟨rfl,rfl⟩;have f0:=jO.o.1.free 0;have c0:=jO.o.1.cell (j:=0) rfl;go_upto_region 13 with fail;generalize hW:World.setCell W2 _ _=W3;have oM:aj (Pm R (gt+1) (gt+2) W3 ⟨hd 4 ((fP ts:Nat):Int),.nil,.nil,zS⟩ ts):=ah (by rw[<- hW];exact jO.o.1.op 4 (by unfold bW;decide));have yN:aj (Fr R.br (gt+1) W2 W3):=ah (by rw[<- hW];exact(Fr.refl _ _ _).set _ _ (.inl rfl));obtain⟨pos,hp,q0,q1,fq,HX⟩:=oM.o.rd.open;clear hW f0 c0 e0 e1 hnf HRE;go_upto_region 14 with fail;generalize hW:World.setCell W3 _ _=W4;have HQ:aj (eP W4 R ts.tail∧W3.grownBy W4 (some R.br)):=ah (by rw[<- hW,MX.o];exact HX.o t0 r0 MX.o);have vk:=ah (oM.o.then HQ.o.1 HQ.o.2);have Aq:=ah (yN.o.trans (Fr.tT HQ.o.2));clear hW q0 q1 fq HX oM HQ yN;go_wp2_with fail;refine(RS.o gt _ vk.o).mono ?_;rintro e w4 ⟨rfl,⟨s,h2⟩,h3⟩;have vk:=ah h2;have OO:=ah (Aq.o.trans h3);clear h2 h3;have xP:=ah (Ia OO.o jO.o.2.2.1 (by have:=kL.o;omega) (by have:=kL.o;omega));obtain⟨⟨y0,y1,y2,y3,y4,y5,y6,y7,y8,y9,jy⟩,fz⟩:=z11 xP.o;have z0:=fz 0;have z1:=fz 1;have z2:=fz 2;have z3:=fz 3;have z4:=fz 4;have z5:=fz 5;have z6:=fz 6;have z7:=fz 7;have z8:=fz 8;have z9:=fz 9;have fV:=fz 10;obtain⟨d0,d1,d2,d3,d4,d5,d6,d7,d8,d9,rV⟩:=QO vk.o;clear fz;go_wp2_with fail;exact bodyPost_ret (v:= .tuple #[iy Y.h Y.b Y.e s,.bool true]) (by simp[results,Tryz.results151,go_sem,iy,y0,y1,y2,y3,y4,y5,y6,y7,y8,y9,jy]) rfl (Yp vk.o (OO.o.gr jO.o.2.1 (by have:=kL.o;omega)) kL.o.1 (by have:=kL.o;omega))
inductive Lz (S:bC->Sx->bC->Prop):bC->List Sx->bC->Prop
 |nil {ts:bC} :at' [125] ts=true->Lz S ts [] ts.tail
 |cons {ts q r:bC} {y:Sx} {m:List Sx} :at' [125] ts=false->S ts y q->Lz S q m r->Lz S ts (y::m) r
def Ba:List Sx->aY
 | []=> .nil
 |y::m=> .cons y.h y.b y.e (Ba m)
theorem Yq: ∀l:List bP,fM l=Ba (l.map (λx=>⟨x.h,x.b,x.e⟩))
 | []=>rfl
 |x::r=>by show aY.cons x.h x.b x.e (fM r)=aY.cons x.h x.b x.e (Ba _);rw[Yq r]
theorem Jl (R:Rp) (S:bC->Sx->bC->Prop) (Pb:aj (∀q y r,S q y r->Eh R q y r)) (ts r:bC) (M:List Sx) (h1:at' [123] ts=true) (hM:Lz S ts.tail M r) (hl:M.length<=4096):uT R ts (Ba M) r:=by
 intro w hI;have HI:=ah hI;have Z8:=ah HI.o.lt;have HM:=ah (aI hM hl);clear hI hM hl;obtain⟨i0,hi,hz0,hz1,hz2⟩:=aN4;have iq:=ah (aI hi (aI hz0 (aI hz1 hz2)));clear hi hz0 hz1 hz2;go_enter Tryz.func142,Tryz.ntmps142;go_wp2_with fail;refine(kW R _ _ ⟨#[123]⟩ rfl h1 HI.o).mono ?_;rintro e w1 ⟨rfl,h2,h3⟩;have HK:=ah (aI h2 h3);clear h2 h3 HI h1;go_wp2_with fail;go_loopg [4] M.length (λgk v4 wr=> ∃(l:List bP) (m:List Sx) (rest:bC),gk=m.length∧Lz S rest m r∧l.map (λx=>(⟨x.h,x.b,x.e⟩:Sx))++m=M∧JR w.heap.size wr v4 l∧(∀x∈l,vK x.h x.b x.e)∧eP wr R rest∧w.grownBy wr (some R.br))
 case atStart=>exact⟨[],M,_,rfl,HM.o.1,rfl,Grow.nil _ _ _ _ _ _,by simp,HK.o.1,HK.o.2⟩
 case round=>
  obtain⟨l,m,rest,rfl,hz,hlm,hg,hok,hr,hgr⟩:=hrel;have K3:=ah hlm;have HL:aj (l.length+m.length<=4096):=ah (by have:=congrArg List.length hlm;simp only[ay,gX]at this;have:=HM.o.2;omega);have HG:=ah hg;have kU:=ah hok;have HR:=ah hr;have tF:=ah hgr;clear hlm hg hok hr hgr HK;cases hz with
  | @nil rest h4=>
    go_wp2_with fail;refine(kW R _ _ ⟨#[125]⟩ rfl h4 HR.o).mono ?_;rintro e w2 ⟨rfl,h2,h3⟩;have HG2:=ah (HG.o.next (zP h3 Z8.o));have HR2:=ah h2;have OT:=ah (jM tF.o h3);clear h2 h3;go_wp2_with fail
    go_ret2
    have hgs:JR w.heap.size w2 u4 l:=HG2.o;obtain⟨ao,cap,e,hst⟩:=hgs.says kU.o;have hq:fM l=Ba M:=by rw[Yq,<- K3.o,List.append_nil]
    rw[<- hq];exact⟨⟨ao,cap,by rw[e];rfl,by rw[pU];have:=HL.o;omega,hst⟩,HR2.o,OT.o⟩
  | @cons _ q _ y m h4 hs hzz=>
    have HC:=ah (Pb.o _ _ _ hs);have Sy:=ah hzz;clear hs hzz;go_wp2_with fail;refine(pI R _ _ ⟨#[125]⟩ rfl h4 HR.o).mono ?_;rintro e w2 ⟨rfl,h2⟩;have HG2:=ah (HG.o.next (bL h2));have HR2:=ah (HR.o.below h2);have OT:=ah (jM tF.o (jL h2));clear h2 HG HR tF;go_wp2_with fail;refine(HC.o _ HR2.o).mono ?_;rintro e w3 ⟨s,rfl,⟨hok,hst⟩,h2,h3⟩;clear HC;have HYX:aj (y=⟨y.h,y.b,y.e⟩):=ah rfl;obtain⟨x,Eb⟩: ∃x:bP,aj (x=⟨y.h,y.b,y.e,s⟩):=⟨_,ah rfl⟩;have hok:vK x.h x.b x.e:=by rw[Eb.o];exact hok
    have hst:gU w2.heap.size w3 (bP.I x):=by rw[Eb.o];exact hst
    rw[show iy y.h y.b y.e s=iy x.h x.b x.e x.s by rw[Eb.o]];have Ar:=ah (HG2.o.next (zP h3 Z8.o));have HR3:=ah h2;have OU:=ah (jM OT.o h3);have G7:=ah hst;have HOX:=ah hok;have vo:aj (w2.heap.size<=w3.heap.size∧w.heap.size<=w2.heap.size):=ah ⟨h3.size,OT.o.size⟩;have tJ:=ah HG2.o.lt;clear h2 h3 hst hok HG2 HR2 OT;unfold iy;go_upto_region 6 with fail;generalize hW:World.alloc w3 _=W4;obtain⟨gs,hg,-,-,eF,-⟩:=oO hW;have ML:aj (JR w.heap.size W4 u4 l):=ah (by rw[<- hW];exact Ar.o.next (bL (au _ _)));have HR4:aj (eP W4 R q):=ah (by rw[<- hW];exact zo HR3.o _);have ay9:aj (w.grownBy W4 (some R.br)):=ah (by rw[<- hW];exact zn OU.o _);have pV:aj (gU w2.heap.size W4 (bP.I x)):=ah (by rw[<- hW];exact G7.o.next (bL (au _ _)));rw[hg];clear hW hg Ar HR3 OU G7;obtain⟨d0,d1,d2,d3,d4,d5,d6,d7,d8,d9,rV⟩:(W4.cell? ⟨gs,0,none⟩=some (.int .i64 x.h.op)∧W4.cell? ⟨gs,1,none⟩=some (.int .i64 x.h.line)∧W4.cell? ⟨gs,2,none⟩=some (.string x.h.nm)∧W4.cell? ⟨gs,3,none⟩=some (.string x.h.arg)∧W4.cell? ⟨gs,4,none⟩=some (.slice x.s.fQ x.h.idx.len x.s.eU)∧W4.cell? ⟨gs,5,none⟩=some (.int .i64 x.h.dN)∧W4.cell? ⟨gs,6,none⟩=some (.int .i64 x.h.xn)∧W4.cell? ⟨gs,7,none⟩=some (.string x.h.dJ)∧W4.cell? ⟨gs,8,none⟩=some (.slice x.s.fT x.h.bG.len x.s.eu)∧W4.cell? ⟨gs,9,none⟩=some (.slice x.s.dH x.b.len x.s.cu)∧W4.cell? ⟨gs,10,none⟩=some (.slice x.s.iC x.e.len x.s.gy)):=⟨aQ eF.o rfl,aQ eF.o rfl,aQ eF.o rfl,aQ eF.o rfl,aQ eF.o rfl,aQ eF.o rfl,aQ eF.o rfl,aQ eF.o rfl,aQ eF.o rfl,aQ eF.o rfl,aQ eF.o rfl⟩;have nP:=ah (ML.o.next (bL (au W4 (.cells (bP.f x).toArray 62))));have jS:=ah (iM (heap_alloc_new W4 (.cells (bP.f x).toArray 62)));have HSW:aj (w.heap.size<=W4.heap.size):=ah ay9.o.size;obtain⟨hi,hz0,hz1,hz2⟩:=iq.o;have hbs:w.heap.size<=W4.heap.size+1:=Nat.le_succ_of_le HSW.o;have hkl:l.length+1<=maxLen:=by have:=HL.o;simp only[aA]at this;unfold maxLen;omega
    have Dg:(l.length+1)*176<=140737488355328:=by have:=HL.o;simp only[aA]at this;omega
    go_wp2_with (at_builtin;refine wpList_append_lies _ rfl _ _ 55 rfl w.heap.size 62 i0 _ 11 176 Tryz.underlying55 hi hz0 hz1 hz2 rfl (by decide) _ _ _ rfl nP.o.own ⟨W4.heap.size,0,none⟩ 1 1 (bP.f x) rfl rfl jS.o (af7 _) (by decide) hkl Dg (by simpa using hbs) _ rfl ?_);clear hi hz0 hz1 hz2 d0 d1 d2 d3 d4 d5 d6 d7 d8 d9 rV;intro g cap w5 hown hgr hmv hlt2;have II:aj (oz w.heap.size u4.ownBlock (W4.alloc (.cells (bP.f x).toArray 62)) (bP.I x)):=ah (R5 (pV.o.next (bL (au _ _))) vo.o.2 (λk hk=>(tJ.o k hk).2));have MN:=ah (nP.o.push II.o rfl hown hgr (by simpa using hmv));have nN:aj (Below w.heap.size (W4.alloc (.cells (bP.f x).toArray 62)) w5):=ah (vU hgr (λk hk=>(tJ.o k hk).1) (by simpa using hbs));have P6:aj (eP w5 R q):=ah (Lf (zo HR4.o _) hgr (λk hk=>by have h1:=(tJ.o k hk).1;have h2:=Z8.o;have h3:=R.b0;omega));have Us:aj (w.grownBy w5 (some R.br)):=ah (KE (zn ay9.o _) nN.o);have bn0:aj (∀y∈l++[x],vK y.h y.b y.e):=ah (λy hy=>by
     rcases List.mem_append.1 hy with hy|hy
     ·exact kU.o y hy
     ·rw[List.mem_singleton.1 hy];exact HOX.o)
    clear hown hgr hmv hlt2 hbs hkl Dg II pV jS nP nN;go_wp2_with fail;go_roundg m.length
    case measure=>simp
    case rel=>exact⟨l++[x],m,q,rfl,Sy.o,by rw[<- K3.o,Eb.o];simp,MN.o,bn0.o,P6.o,Us.o⟩
end Go.Proofs.YtmildapbbcbbhaaGreatDoor
end
