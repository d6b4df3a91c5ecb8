/- Plain functions of the parser: what a list of tokens says, and where it stops to fit. No program in sight. And what hangs on it. -/
import Derived.Test.YtcjgfgkllmldpaaGreatDoorGMB
import Derived.Test.YtcjgfgkllmldpaaGreatDoorShelf
set_option linter.unusedSimpArgs false
set_option linter.unusedVariables false
set_option maxHeartbeats 40000000
set_option maxRecDepth 1000000
section
namespace Go.Proofs.YtcjgfgkllmldpaaGreatDoor.Pz
open Go.RowKit Md Tk
abbrev bL:=List Tok
inductive yw (α:Type) where
 |ok (a:α) (rest:bL)
 |no (rest:bL)
structure E where
 op:Int
 n:Int
 nm:ByteArray
 kids:bV
def tx (l:List UInt8):ByteArray:=⟨l.toArray⟩
def nextK:bL->Nat
 | []=>0
 |t::_=>t.kind
def bT:bL->List UInt8
 | []=>[]
 |t::_=>t.text
def gH:bL->Nat
 | []=>0
 |t::_=>t.line
def at' (x:List UInt8) (ts:bL):Bool:=(nextK ts==3||nextK ts==4)&&bT ts==x
def isName (ts:bL):Bool:=nextK ts==1
def isNum (ts:bL):Bool:=nextK ts==2
def yH (x:List UInt8):Int×Int:=
 if x== [124,124]then(18,1)else if x== [38,38]then(17,2)else if x== [61,61]then(11,3)else if x== [33,61]then(12,3)else if x== [60]then(13,3)else if x== [60,61]then(14,3)
 else if x== [62]then(15,3)else if x== [62,61]then(16,3)else if x== [43]then(6,4)else if x== [45]then(7,4)else if x== [42]then(8,5)else if x== [47]then(9,5)else if x== [37]then(10,5)else(0,0)
def opAt (lv:Int) (ts:bL):Int:=if nextK ts==4&&(yH (bT ts)).2==lv then(yH (bT ts)).1 else 0
def mk1 (op:Int) (x:E):E:=⟨op,0,⟨#[]⟩,.cons x.op x.n x.nm x.kids .nil⟩
def mk2 (op:Int) (x y:E):E:=⟨op,0,⟨#[]⟩,.cons x.op x.n x.nm x.kids (.cons y.op y.n y.nm y.kids .nil)⟩
def XM (nm:ByteArray) (x:E):E:=⟨3,0,nm,.cons x.op x.n x.nm x.kids .nil⟩
def yw.map {α β:Type} (f:α->β):yw α->yw β
 | .ok a r=> .ok (f a) r
 | .no r=> .no r
def yw.close {α:Type} (x:List UInt8):yw α->yw α
 | .ok a r=>if at' x r then .ok a r.tail else .no r
 | .no r=> .no r
inductive M where
 |bin (lv:Nat)
 |lp (lv:Nat) (l:E)
 |un
 |pr
def pe:Nat->M->bL->yw E
 |0,_,ts=> .no ts
 |f+1,.bin lv,ts=>if 5<lv then pe f .un ts else
  match pe f (.bin (lv+1)) ts with
  | .no r=> .no r
  | .ok l r=>pe f (.lp lv l) r
 |f+1,.lp lv l,ts=>if opAt lv ts==0 then .ok l ts else
  match pe f (.bin (lv+1)) ts.tail with
  | .no r=> .no r
  | .ok x r=>if lv=3 then .ok (mk2 (opAt lv ts) l x) r else pe f (.lp lv (mk2 (opAt lv ts) l x)) r
 |f+1,.un,ts=>if at' [45] ts then(pe f .un ts.tail).map (mk1 4)else if at' [33] ts then(pe f .un ts.tail).map (mk1 5)else pe f .pr ts
 |f+1,.pr,ts=>if isNum ts then .ok ⟨1,(val (bT ts):Nat),⟨#[]⟩,.nil⟩ ts.tail
  else if isName ts then
   (if at' [91] ts.tail then((pe f (.bin 1) ts.tail.tail).close [93]).map (λx=>⟨3,0,tx (bT ts),.cons x.op x.n x.nm x.kids .nil⟩)else .ok ⟨2,0,tx (bT ts),.nil⟩ ts.tail)
  else if at' [40] ts then(pe f (.bin 1) ts.tail).close [41]else .no ts
def expr (ts:bL):yw E:=pe (9*ts.length+9) (.bin 1) ts
def Vr (x:List UInt8):Int:=
 if x== [105,102]then 2 else if x== [119,104,105,108,101]then 3 else if x== [108,111,99,107]then 4 else if x== [114,101,97,100]then 5 else if x== [119,114,105,116,101]then 6
 else if x== [116,114,97,110,115,97,99,116,105,111,110]then 7 else if x== [97,116,111,109,105,99]then 8 else if x== [119,97,105,116]then 9 else if x== [110,111,116,105,102,121]then 10
 else if x== [110,111,116,105,102,121,97,108,108]then 11 else if x== [115,112,97,119,110]then 12 else if x== [106,111,105,110]then 13 else if x== [115,101,116]then 14 else if x== [103,101,116]then 15 else 0
def hd (op line:Int):dM:=⟨op,line,⟨#[]⟩,⟨#[]⟩,.nil,0,0,⟨#[]⟩,.nil⟩
def dM.ex (h:dM) (x:E):dM:= {h with dY:=x.op,xn:=x.n,dX:=x.nm,bM:=x.kids}
def one (h:dM) (b e:bf):bf:= .cons h b e .nil
def app:bf->bf->bf
 | .nil,l=>l
 | .cons h b e r,l=> .cons h b e (app r l)
def yw.bind {α β:Type} (r:yw α) (f:α->bL->yw β):yw β:=
 match r with
 | .ok a r=>f a r
 | .no r=> .no r
def aI9 (ts:bL):yw ByteArray:=if isName ts then .ok (tx (bT ts)) ts.tail else .no ts
def need (x:List UInt8) (ts:bL):yw Unit:=if at' x ts then .ok () ts.tail else .no ts
def asg (h:dM) (ts:bL):yw bf:=
 (if at' [91] ts then((expr ts.tail).close [93]).map (λx=> {h with idx:= .cons x.op x.n x.nm x.kids .nil})else .ok h ts).bind λh ts=>
  (need [61] ts).bind λ_ ts=>(((expr ts).map λx=>one (dM.ex h x) .nil .nil).close [59])
def ps:Nat->Bool->bL->yw bf
 |0,_,ts=> .no ts
 |f+1,false,ts=>if at' [125] ts then .ok .nil ts.tail else
  match ps f true ts with
  | .no r=> .no r
  | .ok s r=>(ps f false r).map (app s)
 |f+1,true,ts=>
  let blk:=λ(ts:bL)=>if at' [123] ts then ps f false ts.tail else .no ts
  if nextK ts==1 then asg {hd 1 (gH ts)with nm:=tx (bT ts)} ts.tail
  else if nextK ts==3 then
   let op:=Vr (bT ts)
   let h:=hd op (gH ts)
   if op==0 then .no ts
   else if op==2 then(expr ts.tail).bind λx r=>(blk r).bind λb r=>if at' [101,108,115,101] r then(blk r.tail).map (one (dM.ex h x) b)else .ok (one (dM.ex h x) b .nil) r
   else if op==3 then(expr ts.tail).bind λx r=>(blk r).map λb=>one (dM.ex h x) b .nil
   else if op==7||op==8 then(blk ts.tail).map λb=>one h b .nil
   else(aI9 ts.tail).bind λs r=>
    if op==4||op==5||op==6 then(blk r).map λb=>one {h with nm:=s} b .nil
    else if op==14 then((expr r).map λx=>one (dM.ex {h with nm:=s} x) .nil .nil).close [59]
    else if op==15 then((aI9 r).map λa=>one {h with nm:=s,arg:=a} .nil .nil).close [59]
    else(need [59] r).map λ_=>one {h with nm:=s} .nil .nil
  else .no ts
def blk (f:Nat) (ts:bL):yw bf:=if at' [123] ts then ps f false ts.tail else .no ts
def sS (x:List UInt8):Int:=
 if x== [118,97,114]then 1 else if x== [118,111,108,97,116,105,108,101]then 2 else if x== [109,117,116,101,120]then 3 else if x== [114,119,108,111,99,107]then 4 else if x== [99,111,110,100]then 5 else if x== [102,117,116,117,114,101]then 6 else 0
def Bw (d:De) (ts:bL):yw De:=
 if at' [91] ts then(if isNum ts.tail then(if val (bT ts.tail)==0 then .no ts.tail else(need [93] ts.tail.tail).map λ_=> {d with size:=(val (bT ts.tail):Nat)})else .no ts.tail)else .ok d ts
def Fh (d:De) (ts:bL):yw De:=
 if at' [61] ts then
  (if at' [45] ts.tail then(if isNum ts.tail.tail then .ok {d with init:= -(val (bT ts.tail.tail):Nat)} ts.tail.tail.tail else .no ts.tail.tail)
   else if isNum ts.tail then .ok {d with init:=(val (bT ts.tail):Nat)} ts.tail.tail else .no ts.tail)
 else .ok d ts
def isDecl (ts:bL):Bool:=nextK ts==3&& !(sS (bT ts)==0)
end Go.Proofs.YtcjgfgkllmldpaaGreatDoor.Pz
end
section
namespace Go.Proofs.YtcjgfgkllmldpaaGreatDoor.Pz
open Go.RowKit Md Tk
theorem ad6 {x:List UInt8} {ts:bL} (h:at' x ts=true): ∃t r,ts=t::r:=by
 cases ts with
 |nil=>exact absurd h (by simp[at',nextK])
 |cons t r=>exact⟨t,r,rfl⟩
def wt:M->Nat
 | .bin lv=>8 -lv
 | .lp _ _=>0
 | .un=>1
 | .pr=>0
end Go.Proofs.YtcjgfgkllmldpaaGreatDoor.Pz
end
section
namespace Go.Proofs.YtcjgfgkllmldpaaGreatDoor.Pz
open Go.RowKit Md Tk
def Gp (t:Tok):Prop:=(t.kind=1->ji t.text=true)∧(t.kind=2->(t.text.isEmpty=false∧t.text.all mV=true)∧Aj t.text=true)∧(t.kind=3->wE t.text=true)∧t.kind<=4
theorem O5 (p:UInt8->Bool): ∀l:List UInt8,(l.takeWhile p).all p=true
 | []=>rfl
 |c::r=>by
  rw[List.takeWhile_cons];by_cases h:p c=true
  ·rw[if_pos h,List.all_cons,h,O5 p r];rfl
  ·rw[if_neg h];rfl
end Go.Proofs.YtcjgfgkllmldpaaGreatDoor.Pz
end
section
namespace Go.Proofs.YtcjgfgkllmldpaaGreatDoor.Pz
open Go.RowKit Md Tk
def JK (ts:bL):Prop:= ∀t∈ts,Gp t
theorem JK.tail {ts:bL} (h:JK ts):JK ts.tail:=λt ht=>h t (List.mem_of_mem_tail ht)
theorem zF {ts:bL} (h:JK ts) (hn:isName ts=true):ji (bT ts)=true:=by
 cases ts with
 |nil=>exact absurd hn (by simp[isName,nextK])
 |cons t r=>exact(h t ahh).1 (by simpa[isName,nextK]using hn)
theorem an7 {ts:bL} (h:JK ts) (hn:isNum ts=true):((bT ts).isEmpty=false∧(bT ts).all mV=true)∧Aj (bT ts)=true:=by
 cases ts with
 |nil=>exact absurd hn (by simp[isNum,nextK])
 |cons t r=>exact(h t ahh).2.1 (by simpa[isNum,nextK]using hn)
theorem Qg (l:List UInt8):(tx l).data.toList=l:=by simp[tx]
end Go.Proofs.YtcjgfgkllmldpaaGreatDoor.Pz
end
section
namespace Go.Proofs.YtcjgfgkllmldpaaGreatDoor.Pz
open Go.RowKit Md Tk
end Go.Proofs.YtcjgfgkllmldpaaGreatDoor.Pz
end
section
namespace Go.Proofs.YtcjgfgkllmldpaaGreatDoor.Pz
open Go.RowKit Md Tk
theorem ak5 {ts:bL} (hT:JK ts) (h:isNum ts=true):(val (bT ts):Int)<=9223372036854775807:=by
 have:=(an7 hT h).2;unfold Aj at this;have:=of_decide_eq_true this;omega
theorem aM1 (x:List UInt8):(sS x==0)=false->1<=sS x∧sS x<=6:=by
 intro h;unfold sS at h⊢;grind (splits:=40)
end Go.Proofs.YtcjgfgkllmldpaaGreatDoor.Pz
end
section
namespace Go.Proofs.YtcjgfgkllmldpaaGreatDoor.Pz
open Go.RowKit Md Tk
def Am (n:Nat) (c:UInt8):Nat:=10*n+(c.toNat -48)
theorem Xu: ∀(l:List UInt8) (a:Nat),a<=l.foldl Am a
 | [],a=>aD a
 |c::r,a=>aO (by unfold Am;omega) (Xu r (Am a c))
theorem XJ {c:UInt8} (h:mV c=true):48<=c.toNat∧c.toNat<=57:=by
 unfold mV sU at h;rw[aM]at h;have h1:=of_decide_eq_true h.1;have h2:=of_decide_eq_true h.2;omega
theorem aK1 {M:Nat} (hM:9223372036854775807<=M): ∀(l:List UInt8) (a:Nat),l.all mV=true->l.foldl Am a<=9223372036854775807->Lib.parseUintM M a l= .ok (l.foldl Am a)
 | [],a,_,_=>rfl
 |c::r,a,h,hv=>by
  rw[List.all_cons,aM]at h;have hd:=XJ h.1;have hv':r.foldl Am (Am a c)<=9223372036854775807:=hv;have hg:=Xu r (Am a c);have ih:=aK1 hM r (Am a c) h.2 hv';have hs:Am a c=a*10+(c.toNat -48):=by unfold Am;omega
  unfold Lib.parseUintM;rw[if_pos hd,if_neg ahf,if_neg ahf,<- hs,ih];rfl
theorem ak7 {l:List UInt8} (h1:l.isEmpty=false) (h2:l.all mV=true) (h3:Aj l=true):Lib.parseIntB 64 l= .ok (val l:Int):=by
 have hv:val l<=9223372036854775807:=of_decide_eq_true h3;cases l with
 |nil=>cases h1
 |cons c r=>
  have hd:=XJ (by rw[List.all_cons,aM]at h2;exact h2.1);have hu:Lib.parseUintB 64 (c::r)= .ok (val (c::r)):=by unfold Lib.parseUintB;rw[if_neg ahh];exact aK1 ahg (c::r) 0 h2 hv
  unfold Lib.parseIntB;dsimp only;rw[if_neg ahf,hu];dsimp only
  rw[if_neg (by rintro⟨-,h⟩;have:(2:Nat) ^ (64 -1)=9223372036854775808:=by decide
                omega),if_neg (by rintro⟨h,-⟩;omega),if_neg ahf]
end Go.Proofs.YtcjgfgkllmldpaaGreatDoor.Pz
end
section
namespace Go.Proofs.YtcjgfgkllmldpaaGreatDoor.Pz
open Go.RowKit Md Tk
def TL (N:Nat) (t:Tok):Prop:=(1<=t.line∧t.line<=N)∧1<=t.kind∧(t.kind=4->sgs.contains t.text=true)∧t.text.length<=N
def TsL (ts:bL):Prop:= ∀t∈ts,TL 4097 t
theorem TsL.tail {ts:bL} (h:TsL ts):TsL ts.tail:=λt ht=>h t (List.mem_of_mem_tail ht)
end Go.Proofs.YtcjgfgkllmldpaaGreatDoor.Pz
end
section
namespace Go.Proofs.YtcjgfgkllmldpaaGreatDoor
open Go.RowKit
open Md Pz
theorem Sc {a b:Int} (h:a=b):Ending.returned (.int .i64 a)= .returned (.int .i64 b):=by rw[h]
theorem Ka (x:ByteArray) {l:List UInt8} (hx:x.data.toList=l) (w:World):
 Calls Tryz.prog 115 #[.string x] w λe w'=>e= .returned (.int .i64 (sS l))∧w=w':=by
 have hl:x.toList=l:=adF
 go_enter Tryz.func115,Tryz.ntmps115;go_wp2
 all_goals go_ret
 all_goals exact⟨Sc (by unfold sS;simp only[*];rfl),rfl⟩
theorem bk7 {a b c d:Int} (h:(a,c)=(b,d)):Ending.returned (.tuple #[.int .i64 a,.int .i64 c])= .returned (.tuple #[.int .i64 b,.int .i64 d]):=by
 injection h with h1 h2;rw[h1,h2]
theorem JV (x:ByteArray) {l:List UInt8} (hx:x.data.toList=l) (w:World):
 Calls Tryz.prog 218 #[.string x] w λe w'=>e= .returned (.tuple #[.int .i64 (yH l).1,.int .i64 (yH l).2])∧w=w':=by
 have hl:x.toList=l:=adF
 go_enter Tryz.func218,Tryz.ntmps218;go_wp2
 all_goals go_ret2
 all_goals exact⟨bk7 (by unfold yH;simp only[*];rfl),rfl⟩
def rdV (op:Int):Value:=
 if op==2 then .func (.func 191) #[] #[]else if op==3 then .func (.func 192) #[] #[]
 else if op==4||op==5||op==6 then .func (.func 193) #[] #[]else if op==7||op==8 then .func (.func 194) #[] #[]
 else if op==14 then .func (.func 196) #[] #[]else if op==15 then .func (.func 197) #[] #[]
 else if op==0 then .nilFunc else .func (.func 195) #[] #[]
theorem bp6 {a b:Int} {v:Value} (h:a=b) (hv:v=rdV a):Ending.returned (.tuple #[.int .i64 a,v])= .returned (.tuple #[.int .i64 b,rdV b]):=by rw[<- h,hv]
theorem aA3 (x:ByteArray) {l:List UInt8} (hx:x.data.toList=l) (w:World):
 Calls Tryz.prog 181 #[.string x] w λe w'=>e= .returned (.tuple #[.int .i64 (Vr l),rdV (Vr l)])∧w=w':=by
 have hl:x.toList=l:=adF
 go_enter Tryz.func181,Tryz.ntmps181;go_wp2
 all_goals go_ret2
 all_goals exact⟨bp6 (by unfold Vr;simp only[*];rfl) aix,rfl⟩
end Go.Proofs.YtcjgfgkllmldpaaGreatDoor
end
section
namespace Go.Proofs.YtcjgfgkllmldpaaGreatDoor
open Go.RowKit
open Md Pz
def yO (w:World) (B:Nat):bL->Option Addr->Nat->Prop
 | [],_,_=>True
 |t::r,ao,k=>(∃b off,ao=some ⟨b,off,none⟩∧b<B∧w.cell? ⟨b,off+k*3,none⟩=some (.int .i64 (t.kind:Int))∧w.cell? ⟨b,off+k*3+1,none⟩=some (.string (tx t.text))∧w.cell? ⟨b,off+k*3+2,none⟩=some (.int .i64 (t.line:Int)))∧yO w B r ao (k+1)
theorem yO.below {w w':World} {B:Nat} (hb:Below B w w'): ∀ {l:bL} {ao:Option Addr} {k:Nat},yO w B l ao k->yO w' B l ao k
 | [],_,_,_=>trivial
 |_::_,_,_,⟨⟨b,off,e,hB,c0,c1,c2⟩,hr⟩=>⟨⟨b,off,e,hB,(hb.cell hB).trans c0,(hb.cell hB).trans c1,(hb.cell hB).trans c2⟩,yO.below hb hr⟩
theorem yO.drop {w:World} {B:Nat} : ∀ {l:bL} {ao:Option Addr} {k:Nat} (i:Nat),yO w B l ao k->yO w B (l.drop i) ao (k+i)
 |_,_,_,0,h=>h
 | [],_,_,_+1,_=>by simp[yO]
 |_::_,_,k,i+1,⟨_,hr⟩=>by have:=yO.drop i hr;rw[List.drop_succ_cons];rwa [Nat.add_assoc,Nat.add_comm 1 i]at this
structure Rp where
 B0:Nat
 br:Nat
 ao:Option Addr
 cap:Nat
 ts:bL
 b0:B0<=br
structure eP (w:World) (R:Rp) (rest:bL):Prop where
 blk: ∃pos:Nat,pos<=R.ts.length∧R.ts.drop pos=rest∧w.heap[R.br]? =some (.cells #[.slice R.ao R.ts.length R.cap,.int .i64 (pos:Int)] 142 (0,0))
 tok:yO w R.B0 R.ts R.ao 0
 ok:JK R.ts∧R.ts.length<=4096
 tl:TsL R.ts
theorem eP.lt {w:World} {R:Rp} {rest:bL} (h:eP w R rest):R.br<w.heap.size:=by obtain⟨a,-,-,h⟩:=h.blk;exact(aI h)
theorem eP.ts {w:World} {R:Rp} {rest:bL} (h:eP w R rest):JK rest:=by
 obtain⟨a,-,rfl,-⟩:=h.blk;exact λt ht=>h.ok.1 t (List.mem_of_mem_drop ht)
theorem eP.tsl {w:World} {R:Rp} {rest:bL} (h:eP w R rest):TsL rest:=by
 obtain⟨a,-,rfl,-⟩:=h.blk;exact λt ht=>h.tl t (List.mem_of_mem_drop ht)
theorem eP.len {w:World} {R:Rp} {rest:bL} (h:eP w R rest):rest.length<=4096:=by
 obtain⟨a,-,rfl,-⟩:=h.blk;have:=h.ok.2;simp;omega
theorem eP.below {w w':World} {R:Rp} {rest:bL} (h:eP w R rest) (hb:Below w.heap.size w w'):eP w' R rest:=by
 obtain⟨a,h1,h2,h3⟩:=h.blk;exact⟨⟨a,h1,h2,(hb.block _ h.lt).trans h3⟩,h.tok.below (hb.mono (aO R.b0 (bg h.lt))),h.ok,h.tl⟩
theorem eP.next {w:World} {R:Rp} {t:Tk.Tok} {r:bL} {pos:Nat} (h:eP w R (t::r)) (hd:R.ts.drop pos=t::r) (hb:w.heap[R.br]? =some (.cells #[.slice R.ao R.ts.length R.cap,.int .i64 (pos:Int)] 142 (0,0))):eP (w.setCell ⟨R.br,1,none⟩ (.int .i64 ((pos:Int)+1))) R r:=by
 have hlt:pos<R.ts.length:=by have:=congrArg List.length hd;simp at this;omega
 refine⟨⟨pos+1,hlt,?_,by rw[dQ hb];rfl⟩,h.tok.below (cB (bQ _ _ _) R.b0 (aO R.b0 (bg h.lt))),h.ok,h.tl⟩;rw[<- List.drop_drop,hd];rfl
def yY (ts:bL):Value:= .agg #[.int .i64 (nextK ts:Nat),.string (tx (bT ts)),.int .i64 (gH ts:Nat)]
theorem F3 (w:World) (cs:Array Value) (t:TypeId) (n:Nat):Below w.heap.size w ((w.alloc (.cells cs t)).drewN n)∧((w.alloc (.cells cs t)).drewN n).heap[w.heap.size]? =some (.cells cs t (0,0)):=
 ⟨below_drewN (aA _ _) n,((below_drewN (ak (w.alloc (.cells cs t)).heap.size _) n).block _ ahh).trans (heap_alloc_new w _)⟩
theorem qo {B:Nat} {w w':World} (h:Below B w w') (a:Addr) (v:Value) (hb:B<=a.block):Below B w (w'.setCell a v):=
 ⟨h.os,h.tape,h.output,aa5,λk hk=>(bF w' a v rfl ahf).trans (h.block k hk)⟩
theorem bq6 {w:World} {B:Nat} : ∀ {l:bL} {ao:Option Addr} {k:Nat} {t:Tk.Tok} {r:bL},l=t::r->yO w B l ao k->∃b off,ao=some ⟨b,off,none⟩∧b<B∧w.cell? ⟨b,off+k*3,none⟩=some (.int .i64 (t.kind:Int))∧w.cell? ⟨b,off+k*3+1,none⟩=some (.string (tx t.text))∧w.cell? ⟨b,off+k*3+2,none⟩=some (.int .i64 (t.line:Int))
 |_,_,_,_,_,rfl,h=>h.1
theorem rX (R:Rp) (rest:bL) (w:World) (hI:eP w R rest):
 Calls Tryz.prog 114 #[.pointer (some ⟨R.br,0,none⟩)] w λe w'=>e= .returned (yY rest)∧Below w.heap.size w w':=by
 obtain⟨pos,hp,hd,hblk⟩:=hI.blk;have HI:=ah hI;have HD:=ah hd;obtain⟨c0,c1⟩:=uK hblk;have hl:=hI.ok.2;have hlt:=hI.lt;clear hI hd hblk;by_cases hlt2:R.ts.length<=pos
 ·have hq:decide ((R.ts.length:Int)<=(pos:Int))=true:=by rw[decide_eq_true_iff];omega
  have HR:aj (rest=[]):=ah (by rw[<- HD.o];exact List.drop_eq_nil_iff.2 hlt2);go_enter Tryz.func114,Tryz.ntmps114;go_upto_region 1 with fail;go_quiet (fail);generalize hW:World.drewN (World.alloc w _) _=W1;have HB1:aj (Below w.heap.size w W1):=ah aez;have FZ:aj (W1.heap[w.heap.size]? =some (.cells #[.int .i64 0,.string ⟨#[]⟩,.int .i64 0] 164 (0,0))):=ah aey;clear hW c0 c1 hq;obtain⟨y0,y1,y2⟩:=K3 FZ.o;have f0:W1.frozen? ⟨w.heap.size,0,none⟩=false:=bG FZ.o;have f1:W1.frozen? ⟨w.heap.size,1,none⟩=false:=bG FZ.o;have f2:W1.frozen? ⟨w.heap.size,2,none⟩=false:=bG FZ.o;go_wp2_with fail;have hr:=HR.o;subst hr;exact bodyPost_ret (v:=yY []) (by simp[results,Tryz.results114,go_sem,y0,y1,y2,yY,nextK,bT,gH,tx]) rfl ⟨rfl,qo (qo (qo HB1.o _ _ (aD _)) _ _ (aD _)) _ _ (aD _)⟩
 ·have hq:decide ((R.ts.length:Int)<=(pos:Int))=false:=by rw[decide_eq_false_iff_not];omega
  obtain⟨t,r,HR⟩: ∃t r,aj (rest=t::r):=by
   cases hrs:rest with
   |nil=>rw[hrs]at HD;exact absurd (List.drop_eq_nil_iff.1 HD.o) hlt2
   |cons t r=>exact⟨t,r,ah rfl⟩
  have X6:aj (∀w',Below w.heap.size w w'->∃b off,R.ao=some ⟨b,off,none⟩∧b<R.B0∧w'.cell? ⟨b,off+pos*3,none⟩=some (.int .i64 (t.kind:Int))∧w'.cell? ⟨b,off+pos*3+1,none⟩=some (.string (tx t.text))∧w'.cell? ⟨b,off+pos*3+2,none⟩=some (.int .i64 (t.line:Int))):=ah (λw' hb=>by have:=(HI.o.below hb).tok.drop pos;rw[aU]at this;exact bq6 (HD.o.trans HR.o) this);obtain⟨bb,off,hao,hbb,-⟩:=X6.o w (ak _ _);have zL:=ah hao;rw[hao]at c0;clear hao;go_enter Tryz.func114,Tryz.ntmps114;go_upto_region 1 with fail;go_quiet (fail);generalize hW:World.drewN (World.alloc w _) _=W1;have HB1:aj (Below w.heap.size w W1):=ah aez;have FZ:aj (W1.heap[w.heap.size]? =some (.cells #[.int .i64 0,.string ⟨#[]⟩,.int .i64 0] 164 (0,0))):=ah aey;have d0:W1.cell? ⟨R.br,0,none⟩=some (.slice (some ⟨bb,off,none⟩) R.ts.length R.cap):=(HB1.o.cell hlt).trans c0;have d1:W1.cell? ⟨R.br,1,none⟩=some (.int .i64 (pos:Int)):=(HB1.o.cell hlt).trans c1;obtain⟨b',off',hao,-,e0,e1,e2⟩:=X6.o W1 HB1.o;rw[zL.o]at hao;injection hao with hao;injection hao with h1 h2;subst h1;subst h2;clear hW c0 c1 hq X6;obtain⟨y0,y1,y2⟩:=K3 FZ.o;have f0:W1.frozen? ⟨w.heap.size,0,none⟩=false:=bG FZ.o;have f1:W1.frozen? ⟨w.heap.size,1,none⟩=false:=bG FZ.o;have f2:W1.frozen? ⟨w.heap.size,2,none⟩=false:=bG FZ.o;have hb0:(0:Int)<=(pos:Int):=ahf
  have hb1:(pos:Int)<(R.ts.length:Int):=ahf
  go_upto_region 3 with fail;go_still_tail 10,ahe;change wpList _ _ _ _ _ W1.drew;have HB2:aj (Below w.heap.size w W1.drew):=ah (below_drewN HB1.o 1);have hr:=HR.o;go_wp2_with fail;subst hr;exact bodyPost_ret (v:=yY (t::r)) (by simp[results,Tryz.results114,go_sem,y0,y1,y2,yY,nextK,bT,gH]) rfl ⟨rfl,qo (qo (qo HB2.o _ _ (aD _)) _ _ (aD _)) _ _ (aD _)⟩
theorem aL4 (x:ByteArray) {l:List UInt8} (hx:x.data.toList=l) (rest:bL):
 at' l rest=(((((nextK rest:Nat):Int)==3)||(((nextK rest:Nat):Int)==4))&&((tx (bT rest)).toList==x.toList)):=by
 have h3:(((nextK rest:Nat):Int)==3)=(nextK rest==3):=abf
 have h4:(((nextK rest:Nat):Int)==4)=(nextK rest==4):=abf
 rw[h3,h4,Lib.toList_data,Lib.toList_data,hx];rfl
theorem O7 (R:Rp) (rest:bL) (w:World) (x:ByteArray) {l:List UInt8} (hx:x.data.toList=l) (hI:eP w R rest):
 Calls Tryz.prog 117 #[.pointer (some ⟨R.br,0,none⟩),.string x] w λe w'=>e= .returned (.bool (at' l rest))∧Below w.heap.size w w':=by
 have HE:=ah (aL4 x hx rest);have HN:=ah (rX R rest w hI);unfold yY at HN;generalize at' l rest=res at *;generalize ((nextK rest:Nat):Int)=k at *;generalize ((gH rest:Nat):Int)=n at *;generalize tx (bT rest)=s at *;clear hI hx;go_enter Tryz.func117,Tryz.ntmps117;go_wp2_with fail;refine HN.o.mono ?_;rintro e w1 ⟨rfl,hb⟩;have HB:=ah hb;clear hb HN;go_wp2_with fail
 all_goals go_ret
 all_goals exact⟨congrArg (λb=>Ending.returned (.bool b)) (by rw[HE.o];simp[*]),HB.o.alloc HB.o.size _⟩
theorem cell_far {w:World} {a:Addr} {v:Value} {g j:Nat} {u:Value} (h:a.block≠g) (hc:w.cell? ⟨g,j,none⟩=some u):(w.setCell a v).cell? ⟨g,j,none⟩=some u:=
 (World.cell?_of_block (a:=⟨g,j,none⟩) (bF w a v rfl h)).trans hc
theorem kD {b:Option Nat} {w w':World} (h:Below w.heap.size w w'):w.grownBy w' b:=⟨h.os,h.tape,h.output,h.size,λk hk _=>h.block k hk⟩
theorem eP.nt {w:World} {R:Rp} {t:Tk.Tok} {r:bL} {pos:Nat} (h:eP w R (t::r)) (hd:R.ts.drop pos=t::r) (hb:w.heap[R.br]? =some (.cells #[.slice R.ao R.ts.length R.cap,.int .i64 (pos:Int)] 142 (0,0))):
 eP (w.setCell ⟨R.br,1,none⟩ (.int .i64 ((pos:Int)+1))) R r∧w.grownBy (w.setCell ⟨R.br,1,none⟩ (.int .i64 ((pos:Int)+1))) (some R.br):=
 ⟨h.next hd hb,bQ w ⟨R.br,1,none⟩ _⟩
theorem eP.open {w:World} {R:Rp} {rest:bL} (h:eP w R rest): ∃pos:Nat,(pos<=R.ts.length∧pos<=4096)∧w.cell? ⟨R.br,0,none⟩=some (.slice R.ao R.ts.length R.cap)∧w.cell? ⟨R.br,1,none⟩=some (.int .i64 (pos:Int))∧w.frozen? ⟨R.br,1,none⟩=false∧
 aj (∀t r,rest=t::r->eP (w.setCell ⟨R.br,1,none⟩ (.int .i64 ((pos:Int)+1))) R r∧w.grownBy (w.setCell ⟨R.br,1,none⟩ (.int .i64 ((pos:Int)+1))) (some R.br)):=by
 obtain⟨pos,h1,h2,h3⟩:=h.blk;have:=h.ok.2;refine⟨pos,⟨h1,ahf⟩,aG h3 rfl,aG h3 rfl,bG h3,ah (λt r e=> ?_)⟩;subst e;exact h.nt h2 h3
theorem qm (R:Rp) (rest:bL) (w:World) (x:ByteArray) {l:List UInt8} (hx:x.data.toList=l) (h:at' l rest=false) (hI:eP w R rest):
 Calls Tryz.prog 144 #[.pointer (some ⟨R.br,0,none⟩),.string x] w λe w'=>e= .returned (.bool false)∧Below w.heap.size w w':=by
 have HN:=ah (O7 R rest w x hx hI);rw[h]at HN;clear hI hx h;go_enter Tryz.func144,Tryz.ntmps144;go_wp2_with fail;refine HN.o.mono ?_;rintro e w1 ⟨rfl,hb⟩;have HB:=ah hb;clear hb HN;go_wp2_with fail;go_ret;exact⟨rfl,HB.o⟩
theorem lM (R:Rp) (rest:bL) (w:World) (x:ByteArray) {l:List UInt8} (hx:x.data.toList=l) (h:at' l rest=true) (hI:eP w R rest):
 Calls Tryz.prog 144 #[.pointer (some ⟨R.br,0,none⟩),.string x] w λe w'=>e= .returned (.bool true)∧eP w' R rest.tail∧w.grownBy w' (some R.br):=by
 have HN:=ah (O7 R rest w x hx hI);rw[h]at HN;obtain⟨t,r,hr⟩:=ad6 h;have HR:=ah hr;have HI:=ah hI;clear hI hx h hr;go_enter Tryz.func144,Tryz.ntmps144;go_wp2_with fail;refine HN.o.mono ?_;rintro e w1 ⟨rfl,hb⟩;obtain⟨pos,hp,c0,c1,f1,HX⟩:=(HI.o.below hb).open;have HB:=ah hb;clear hb HN;go_wp2_with fail;go_ret;obtain⟨q1,q2⟩:=HX.o t r HR.o;exact⟨rfl,agV,jD (kD HB.o) q2⟩
theorem Ri (n:Nat) (rest:bL):(nextK rest==n)=(((nextK rest:Nat):Int)==(n:Int)):=by
 rw[Bool.eq_iff_iff,beq_iff_eq,beq_iff_eq];omega
theorem wG (R:Rp) (rest:bL) (w:World) (h:isName rest=true) (hI:eP w R rest):
 Calls Tryz.prog 141 #[.pointer (some ⟨R.br,0,none⟩)] w λe w'=>e= .returned (.tuple #[.string (tx (bT rest)),.bool true])∧eP w' R rest.tail∧w.grownBy w' (some R.br):=by
 have HN:=ah (rX R rest w hI);obtain⟨t,r,hr⟩: ∃t r,rest=t::r:=by
  cases rest with
  |nil=>exact absurd h (by simp[isName,nextK])
  |cons t r=>exact⟨t,r,rfl⟩
 have HR:=ah hr;have HI:=ah hI;have hk:nextK rest=1:=by simpa[isName]using h
 unfold yY at HN;rw[hk]at HN;have HK:=ah hk;have hlt:=hI.lt;clear hI h hr hk;go_enter Tryz.func141,Tryz.ntmps141;go_wp2_with fail;refine HN.o.mono ?_;rintro e w1 ⟨rfl,hb⟩;have HB:=ah hb;clear hb HN;go_upto_region 2 with fail;generalize hW:World.alloc w1 _=W;obtain⟨g,hg,-,-,HC,-⟩:=oJ hW;have HB1:aj (Below w.heap.size w W):=ah (by rw[<- hW];exact HB.o.alloc HB.o.size _);have HG:aj (g≠R.br):=ah (by have:=HB.o.size;omega);rw[hg];obtain⟨y0,y1⟩:=uK HC.o;obtain⟨pos,hp,c0,c1,f1,HX⟩:=(HI.o.below HB1.o).open;have z1:(W.setCell ⟨R.br,1,none⟩ (.int .i64 ((pos:Int)+1))).cell? ⟨g,1,none⟩=some (.string (tx (bT rest))):=cell_far (λe=>HG.o e.symm) y1;clear hW hg HB;go_wp2_with fail
 go_ret2
 obtain⟨q1,q2⟩:=HX.o t r HR.o;exact⟨rfl,agV,jD (kD HB1.o) q2⟩
theorem op_spec (lv:Int) (rest:bL):opAt lv rest=if(((nextK rest:Nat):Int)==4)=true∧((yH (bT rest)).2==lv)=true then(yH (bT rest)).1 else 0:=by
 have h4:(((nextK rest:Nat):Int)==4)=(nextK rest==4):=abf
 rw[h4];unfold opAt;simp only[aM]
theorem Vh (R:Rp) (rest:bL) (w:World) (lv:Int) (hI:eP w R rest):
 Calls Tryz.prog 215 #[.pointer (some ⟨R.br,0,none⟩),.int .i64 lv] w λe w'=>e= .returned (.int .i64 (opAt lv rest))∧Below w.heap.size w w':=by
 have HE:=ah (op_spec lv rest);have HN:=ah (rX R rest w hI);have HB0:aj (∀w,Calls Tryz.prog 218 #[.string (tx (bT rest))] w λe w'=>e= .returned (.tuple #[.int .i64 (yH (bT rest)).1,.int .i64 (yH (bT rest)).2])∧w=w'):=ah (JV (tx (bT rest)) rfl);unfold yY at HN;generalize opAt lv rest=res at *;generalize ((nextK rest:Nat):Int)=k at *;generalize ((gH rest:Nat):Int)=n at *;generalize tx (bT rest)=s at *;generalize (yH (bT rest)).1=a at *;generalize (yH (bT rest)).2=b at *;clear hI;go_enter Tryz.func215,Tryz.ntmps215;go_wp2_with fail;refine HN.o.mono ?_;rintro e w1 ⟨rfl,hb⟩;have HB:=ah hb;clear hb HN;cases h4:(k==4)
 ·go_wp2_with fail;go_ret;exact⟨Sc (by rw[HE.o,if_neg (by rw[h4];rintro⟨h,-⟩;cases h)]),HB.o.alloc HB.o.size _⟩
 ·cases hl:(b==lv)
  all_goals go_wp2_with (with_reducible refine(HB0.o _).mono ?_;rintro e w2 ⟨rfl,rfl⟩);go_ret
  ·exact⟨Sc (by rw[HE.o,if_neg (by rw[hl];rintro⟨-,h⟩;cases h)]),HB.o.alloc HB.o.size _⟩
  ·exact⟨Sc (by rw[HE.o,if_pos ⟨h4,hl⟩]),HB.o.alloc HB.o.size _⟩
theorem eP.pos {w:World} {R:Rp} {rest:bL} (h:eP w R rest): ∃pos:Nat,pos<=R.ts.length∧R.ts.drop pos=rest∧w.cell? ⟨R.br,0,none⟩=some (.slice R.ao R.ts.length R.cap)∧w.cell? ⟨R.br,1,none⟩=some (.int .i64 (pos:Int)):=by
 obtain⟨pos,h1,h2,h3⟩:=h.blk;exact⟨pos,h1,h2,aG h3 rfl,aG h3 rfl⟩
end Go.Proofs.YtcjgfgkllmldpaaGreatDoor
end
section
namespace Go.Proofs.YtcjgfgkllmldpaaGreatDoor
open Go.RowKit
open Md Pz
theorem VT {w w':World} {T:TypeId} (h:w'=w∨∃t,w'=Lib.bytesWorld w T t):Below w.heap.size w w':=by
 rcases h with rfl|⟨t,rfl⟩
 ·exact ak _ _
 ·exact Lib.bytesWorld_below _ _ _
theorem ak6 (R:Rp) (rest:bL) (w:World) (h:isNum rest=false) (hI:eP w R rest):
 Calls Tryz.prog 168 #[.pointer (some ⟨R.br,0,none⟩)] w λe w'=>e= .returned (.tuple #[.int .i64 0,.bool false])∧Below w.heap.size w w':=by
 have HN:=ah (rX R rest w hI);have h1:(((nextK rest:Nat):Int)==2)=false:=(Ri 2 rest).symm.trans h;unfold yY at HN;generalize ((nextK rest:Nat):Int)=k at *;clear hI h;go_enter Tryz.func168,Tryz.ntmps168;go_wp2_with fail;refine HN.o.mono ?_;rintro e w1 ⟨rfl,hb⟩;have HB:=ah hb;clear hb HN;go_wp2_with fail
 go_ret2
 exact⟨rfl,HB.o.alloc HB.o.size _⟩
theorem XY (R:Rp) (rest:bL) (w:World) (h:isNum rest=true) (hI:eP w R rest):
 Calls Tryz.prog 168 #[.pointer (some ⟨R.br,0,none⟩)] w λe w'=>e= .returned (.tuple #[.int .i64 ((Tk.val (bT rest):Nat):Int),.bool true])∧eP w' R rest.tail∧w.grownBy w' (some R.br):=by
 have HN:=ah (rX R rest w hI);obtain⟨t,r,hr⟩: ∃t r,rest=t::r:=by
  cases rest with
  |nil=>exact absurd h (by simp[isNum,nextK])
  |cons t r=>exact⟨t,r,rfl⟩
 have HR:=ah hr;have HI:=ah hI;have hk:nextK rest=2:=by simpa[isNum]using h
 have hts:=an7 hI.ts h;have hsz:(tx (bT rest)).size<=9223372036854775806:=by have:=(hI.tsl t (by rw[hr];simp)).2.2.2;rw[hr];show t.text.toArray.size<=_;simp;omega
 have HP:aj (∀w,Calls Tryz.prog 179 #[.string (tx (bT rest)),.int .i64 10,.int .i64 64] w λe w'=>e= .returned (.tuple #[.int .i64 ((Tk.val (bT rest):Nat):Int),.nilIface])∧(w'=w∨∃t,w'=Lib.bytesWorld w 5 t)):=ah (λw=>Tryz.strconv_ParseInt_10_at64_ok (tx (bT rest)) hsz _ (by rw[Qg];exact ak7 hts.1.1 hts.1.2 hts.2) w);unfold yY at HN;rw[hk]at HN;have hlt:=hI.lt;clear hI h hr hk hts;generalize ((Tk.val (bT rest):Nat):Int)=n at *;go_enter Tryz.func168,Tryz.ntmps168;go_wp2_with fail;refine HN.o.mono ?_;rintro e w1 ⟨rfl,hb⟩;have HB:=ah hb;clear hb HN;go_wp2_with fail;refine(HP.o _).mono ?_;rintro e w2 ⟨rfl,hb⟩;have HB2:aj (Below w.heap.size w w2):=ah ((HB.o.alloc HB.o.size _).trans ((VT hb).mono (by have:=HB.o.size;simp;omega)));obtain⟨pos,hp,c0,c1,f1,HX⟩:=(HI.o.below HB2.o).open;clear hb HP;go_wp2_with fail
 go_ret2
 obtain⟨q1,q2⟩:=HX.o t r HR.o;exact⟨rfl,agV,jD (kD HB2.o) q2⟩
end Go.Proofs.YtcjgfgkllmldpaaGreatDoor
end
section
namespace Go.Proofs.YtcjgfgkllmldpaaGreatDoor
open Go.RowKit
open Md Pz
def LK (x:E):Prop:=qR x.op x.n x.nm x.kids
def EV (B:Nat) (x:E) (v:Value) (w:World):Prop:= ∃ao cap,v=exV x.op x.n x.nm x.kids ao cap∧LK x∧iH B w (λw2=>x.kids.At w2 w2.heap.size ao 0)
theorem EV.mono {B B':Nat} {x:E} {v:Value} {w:World} (h:EV B' x v w) (hB:B<=B'):EV B x v w:=by
 obtain⟨ao,cap,h1,h2,h3⟩:=h;exact⟨ao,cap,h1,h2,h3.mono hB⟩
def zE:Value:= .agg #[.int .i64 0,.int .i64 0,.string ⟨#[]⟩,.slice none 0 0]
def xP (R:Rp) (w:World) (r:yw E) (e:Ending) (w':World):Prop:=
 match r with
 | .ok x rest=> ∃v,e= .returned (.tuple #[v,.bool true])∧EV w.heap.size x v w'∧eP w' R rest∧w.grownBy w' (some R.br)
 | .no rest=>e= .returned (.tuple #[zE,.bool false])∧eP w' R rest∧w.grownBy w' (some R.br)
def Cg (w:World) (b:Nat) (v0 v1 v2 v3:Value):World:=(((w.setCell ⟨b,0,none⟩ v0).setCell ⟨b,1,none⟩ v1).setCell ⟨b,2,none⟩ v2).setCell ⟨b,3,none⟩ v3
theorem Ej {br:Nat} {w w':World} (h:w.grownBy w' (some br)) (a:Addr) (v:Value) (hb:w.heap.size<=a.block):w.grownBy (w'.setCell a v) (some br):=
 ⟨h.os,h.tape,h.output,aa5,λk hk hn=>(bF w' a v rfl ahf).trans (h.block k hk hn)⟩
theorem Bj {br:Nat} {w w':World} (h:w.grownBy w' (some br)) (o:Obj):w.grownBy (w'.alloc o) (some br):=jD h (kD (aA _ _))
theorem wN {w:World} {R:Rp} {rest:bL} (h:eP w R rest) (a:Addr) (v:Value) (h0:R.B0<=a.block) (h1:a.block≠R.br):eP (w.setCell a v) R rest:=by
 obtain⟨pos,k1,k2,k3⟩:=h.blk;exact⟨⟨pos,k1,k2,(bF w a v rfl h1).trans k3⟩,h.tok.below (cB (bQ w a v) h0 (aO R.b0 (bg h.lt))),h.ok,h.tl⟩
theorem Bo {w:World} {R:Rp} {rest:bL} (h:eP w R rest) (o:Obj):eP (w.alloc o) R rest:=h.below (aA _ _)
structure Wk (R:Rp) (w W:World) (rest:bL):Prop where
 rd:eP W R rest
 gr:w.grownBy W (some R.br)
 lt:R.br<w.heap.size
theorem Wk.start {R:Rp} {w:World} {rest:bL} (h:eP w R rest):Wk R w w rest:=⟨h,Dm _,h.lt⟩
section
variable {R:Rp} {w W W':World} {rest rest':bL}
theorem Wk.set (h:Wk R w W rest) (a:Addr) (v:Value) (hb:w.heap.size<=a.block):Wk R w (W.setCell a v) rest:=
 ⟨wN h.rd a v (by have:=R.b0;have:=h.lt;omega) aff,Ej h.gr a v hb,h.lt⟩
theorem Wk.alloc (h:Wk R w W rest) (o:Obj):Wk R w (W.alloc o) rest:=⟨Bo h.rd o,Bj h.gr o,h.lt⟩
theorem Wk.below (h:Wk R w W rest) (hb:Below W.heap.size W W'):Wk R w W' rest:=⟨h.rd.below hb,jD h.gr (kD hb),h.lt⟩
theorem Wk.then (h:Wk R w W rest) (h1:eP W' R rest') (h2:W.grownBy W' (some R.br)):Wk R w W' rest':=⟨h1,jD h.gr h2,h.lt⟩
theorem Wk.Cg (h:Wk R w W rest) (b:Nat) (v0 v1 v2 v3:Value) (hb:w.heap.size<=b):Wk R w (Cg W b v0 v1 v2 v3) rest:=
 (((h.set ⟨b,0,none⟩ v0 hb).set ⟨b,1,none⟩ v1 hb).set ⟨b,2,none⟩ v2 hb).set ⟨b,3,none⟩ v3 hb
theorem Wk.kept (h:Wk R w W rest) (h2:W.grownBy W' (some R.br)) {k:Nat} (hk:w.heap.size<=k) (hl:k<W.heap.size):W'.heap[k]? =W.heap[k]?:=h2.block k hl afG
end
theorem Vl (w:World) (b:Nat) (v0 v1 v2 v3:Value):kT (b+1) w (Cg w b v0 v1 v2 v3):=by
 have x1:kT (b+1) w _:=iM w ⟨b,0,none⟩ v0 (Nat.lt_succ_self _);have x2:=x1.trans (iM _ ⟨b,1,none⟩ v1 (Nat.lt_succ_self _));have x3:=x2.trans (iM _ ⟨b,2,none⟩ v2 (Nat.lt_succ_self _));exact x3.trans (iM _ ⟨b,3,none⟩ v3 (Nat.lt_succ_self _))
theorem am2 (w:World) (b:Nat) (v0 v1 v2 v3:Value):(Cg w b v0 v1 v2 v3).heap.size=w.heap.size:=by simp[Cg,World.setCell]
theorem BJ {br B:Nat} {w w':World} (h:w.grownBy w' (some br)) (hB:br<B):kT B w w':=⟨h.size,λk h1 h2=>h.block k h2 ahi⟩
end Go.Proofs.YtcjgfgkllmldpaaGreatDoor
end
section
namespace Go.Proofs.YtcjgfgkllmldpaaGreatDoor
open Go.RowKit
open Md Pz
theorem Bv {w:World} {b:Nat} {t:TypeId} (h:w.heap[b]? =some (.cells #[.int .i64 0,.int .i64 0,.string ⟨#[]⟩,.slice none 0 0] t (0,0))):
 (w.cell? ⟨b,0,none⟩=some (.int .i64 0)∧w.cell? ⟨b,1,none⟩=some (.int .i64 0)∧w.cell? ⟨b,2,none⟩=some (.string ⟨#[]⟩)∧w.cell? ⟨b,3,none⟩=some (.slice none 0 0))∧w.frozen? ⟨b,0,none⟩=false∧w.frozen? ⟨b,1,none⟩=false∧w.frozen? ⟨b,2,none⟩=false∧w.frozen? ⟨b,3,none⟩=false:=
 ⟨⟨aG h rfl,aG h rfl,aG h rfl,aG h rfl⟩,bG h,bG h,bG h,bG h⟩
theorem Vw {B g:Nat} {w w1:World} {Q:World->Prop} (h:iH B w Q) (ha:kT B w w1) (hg:w.heap.size<=g):qI B (some g) w1 Q:=λw' h'=>
 h w' ⟨aO ha.1 h'.1,λk h1 h2=>(h'.2 k h1 (λe=>agG) (aV h2 ha.1)).trans (ha.2 k h1 h2)⟩
theorem Fg:cO 0:=afM
theorem O9 {R:Rp} {w w2:World} {r:bL} {x:E} {ao:Option Addr} {cap:Nat} {a b c d:Value} (h:Wk R w w2 r) (hE:LK x∧iH (w.heap.size+1) w2 (λw2=>x.kids.At w2 w2.heap.size ao 0)):
 xP R w (.ok x r) (.returned (.tuple #[exV x.op x.n x.nm x.kids ao cap,.bool true])) (Cg w2 w.heap.size a b c d):=by
 have hk:=h.Cg w.heap.size a b c d (aD _);exact⟨_,rfl,⟨ao,cap,rfl,hE.1,(hE.2.next (Vl w2 w.heap.size a b c d)).mono (jv _)⟩,hk.rd,hk.gr⟩
theorem ay4 {R:Rp} {w w2:World} {r:bL} {op n:Int} {nm:ByteArray} {a b c d:Value} (h:Wk R w w2 r) (h1:cO op) (h2:cO n) (h3:nm.size<=maxLen):
 xP R w (.ok ⟨op,n,nm,.nil⟩ r) (.returned (.tuple #[exV op n nm .nil none 0,.bool true])) (Cg w2 w.heap.size a b c d):=by
 have hk:=h.Cg w.heap.size a b c d (aD _);exact⟨_,rfl,⟨none,0,rfl,⟨h1,h2,h3,bC _⟩,λ_ _=>trivial⟩,hk.rd,hk.gr⟩
theorem bg8 {R:Rp} {w w2:World} {r:bL} {x:E} {ao:Option Addr} {cap:Nat} {nm:ByteArray} {t:TypeId} (hn:nm.size<=maxLen) (h:Wk R w w2 r) (hlt:w.heap.size<w2.heap.size) (hE:LK x∧iH (w.heap.size+1) w2 (λw2=>x.kids.At w2 w2.heap.size ao 0)):
 xP R w (.ok (XM nm x) r) (.returned (.tuple #[exV 3 0 nm (.cons x.op x.n x.nm x.kids .nil) (some ⟨w2.heap.size,0,none⟩) 1,.bool true]))
  ((Cg w2 w.heap.size (.int .i64 3) (.int .i64 0) (.string nm) (.slice (some ⟨w2.heap.size,0,none⟩) 1 1)).alloc (.cells #[.int .i64 x.op,.int .i64 x.n,.string x.nm,.slice ao x.kids.len cap] t)):=by
 have hk:=h.Cg w.heap.size (.int .i64 3) (.int .i64 0) (.string nm) (.slice (some ⟨w2.heap.size,0,none⟩) 1 1) (aD _);have ha:=Vl w2 w.heap.size (.int .i64 3) (.int .i64 0) (.string nm) (.slice (some ⟨w2.heap.size,0,none⟩) 1 1);have hs:=am2 w2 w.heap.size (.int .i64 3) (.int .i64 0) (.string nm) (.slice (some ⟨w2.heap.size,0,none⟩) 1 1);generalize Cg w2 w.heap.size _ _ _ _=W at *;refine⟨_,rfl,⟨_,1,rfl,⟨(by unfold cO;decide:cO 3),Fg,hn,by simp[XM,bV.len,maxLen]⟩,?_⟩,(hk.alloc _).rd,(hk.alloc _).gr⟩;rw[<- hs];exact(Nr (heap_alloc_new _ _) ahf hE.1 ((hE.2.next ha).next (bR (aA _ _)))).mono (jv _)
theorem zy {l:List UInt8} (h:Tk.ji l=true):(tx l).size<=maxLen:=by
 unfold Tk.ji at h;simp only[aM,decide_eq_true_eq]at h;have:(tx l).size=l.length:=by simp[tx,ByteArray.size]
 unfold maxLen;omega
theorem af8 {w:World} {g:Nat} {x:E} {ao:Option Addr} {cap:Nat} {t:TypeId} (h:w.heap[g]? =some (.cells (Ui x.op x.n x.nm x.kids ao cap).toArray t (0,0))):
 (w.cell? ⟨g,0,none⟩=some (.int .i64 x.op)∧w.cell? ⟨g,1,none⟩=some (.int .i64 x.n)∧w.cell? ⟨g,2,none⟩=some (.string x.nm)∧w.cell? ⟨g,3,none⟩=some (.slice ao x.kids.len cap))∧w.frozen? ⟨g,0,none⟩=false∧w.frozen? ⟨g,1,none⟩=false∧w.frozen? ⟨g,2,none⟩=false∧w.frozen? ⟨g,3,none⟩=false:=
 ⟨⟨aG h rfl,aG h rfl,aG h rfl,aG h rfl⟩,bG h,bG h,bG h,bG h⟩
def TN (r:bL):Prop:= ∀lv:Int,opAt lv r=0
inductive Ez:bL->E->bL->Prop
 |nm {ts:bL} :isName ts=true->at' [91] ts.tail=false->TN ts.tail->Ez ts ⟨2,0,tx (bT ts),.nil⟩ ts.tail
 |ix {ts r:bL} {x:E} :isName ts=true->at' [91] ts.tail=true->Ez ts.tail.tail x r->at' [93] r=true->TN r.tail->Ez ts (XM (tx (bT ts)) x) r.tail
theorem Ez.name {ts r:bL} {x:E} (h:Ez ts x r):isName ts=true:=by cases h <;> assumption
theorem Ez.noop {ts r:bL} {x:E} (h:Ez ts x r):TN r:=by cases h <;> assumption
theorem aJ0 {ts:bL} (h:isName ts=true) (y:List UInt8):at' y ts=false:=by
 unfold isName at h;unfold at';rw[eq_of_beq h];rfl
theorem ak4 {ts:bL} (h:isName ts=true):isNum ts=false:=by
 unfold isName at h;unfold isNum;rw[eq_of_beq h];rfl
theorem got {R:Rp} {w W w2:World} {ts r:bL} {x:E} {e:Ending} {a:Array Value} {t:TypeId} (hk:Wk R w W ts) (hz:W.heap[w.heap.size]? =some (.cells a t (0,0))) (h:xP R W (.ok x r) e w2):
 ∃ao cap,e= .returned (.tuple #[exV x.op x.n x.nm x.kids ao cap,.bool true])∧aj (Wk R w w2 r∧w2.heap[w.heap.size]? =some (.cells a t (0,0))∧(LK x∧iH (w.heap.size+1) w2 (λw2=>x.kids.At w2 w2.heap.size ao 0))):=by
 obtain⟨v,rfl,hv,h2,h3⟩:=h;have hl:=(aI hz);obtain⟨ao,cap,rfl,hok,hst⟩:=hv.mono hl;exact⟨ao,cap,rfl,ah ⟨hk.then h2 h3,(hk.kept h3 (aD _) hl).trans hz,hok,hst⟩⟩
set_option maxHeartbeats 1000000
section
variable (R:Rp) (ts r:bL) (x:E)
theorem bq7 (he:isName ts=true) (HX:aj (∀w,eP w R ts->Calls Tryz.prog 217 #[.pointer (some ⟨R.br,0,none⟩)] w (xP R w (.ok x r)))) (w:World) (hI:eP w R ts):
 Calls Tryz.prog 214 #[.pointer (some ⟨R.br,0,none⟩)] w (xP R w (.ok x r)):=by
 have HI:=ah hI;clear hI;go_enter Tryz.func214,Tryz.ntmps214;go_upto_region 1 with fail;generalize hW:World.alloc w _=W;have HK:aj (Wk R w W ts):=ah acJ;have HZ:aj (W.heap[w.heap.size]? =some (.cells #[.int .i64 0,.int .i64 0,.string ⟨#[]⟩,.slice none 0 0] 80 (0,0))):=ah acC;clear hW;go_wp2_with fail;refine(qm R _ _ ⟨#[45]⟩ rfl (aJ0 he _) HK.o.rd).mono ?_;rintro e w0 ⟨rfl,h2⟩;have zh:=ah (HK.o.below h2);have HZ0:=jq h2 HZ;clear h2 HK HZ;have HK:=zh;have HZ:=HZ0;clear zh HZ0;go_wp2_with fail;refine(qm R _ _ ⟨#[33]⟩ rfl (aJ0 he _) HK.o.rd).mono ?_;rintro e w0 ⟨rfl,h2⟩;have zh:=ah (HK.o.below h2);have HZ0:=jq h2 HZ;clear h2 HK HZ;have HK:=zh;have HZ:=HZ0;clear zh HZ0;go_wp2_with fail;refine(HX.o _ HK.o.rd).mono ?_;intro e w2 h';obtain⟨ao,cap,rfl,HG⟩:=got HK.o HZ.o h';clear h' HK HZ;obtain⟨⟨y0,y1,y2,y3⟩,f0,f1,f2,f3⟩:=Bv HG.o.2.1;have hlt2:w.heap.size<w2.heap.size:=(aI HG.o.2.1);unfold exV;go_wp2_with fail;exact bodyPost_ret (v:= .tuple #[exV x.op x.n x.nm x.kids ao cap,.bool true]) (by simp[results,Tryz.results214,go_sem,exV,y0,y1,y2,y3,hlt2]) rfl (O9 HG.o.1 HG.o.2.2)
theorem aL5 (HX:aj (∀w,eP w R ts->Calls Tryz.prog 214 #[.pointer (some ⟨R.br,0,none⟩)] w (xP R w (.ok x r)))) (w:World) (hI:eP w R ts):
 Calls Tryz.prog 205 #[.pointer (some ⟨R.br,0,none⟩),.int .i64 6] w (xP R w (.ok x r)):=by
 have HI:=ah hI;clear hI;go_enter Tryz.func205,Tryz.ntmps205;go_upto_region 1 with fail;generalize hW:World.alloc w _=W;have HK:aj (Wk R w W ts):=ah acJ;have HZ:aj (W.heap[w.heap.size]? =some (.cells #[.int .i64 0,.int .i64 0,.string ⟨#[]⟩,.slice none 0 0] 80 (0,0))):=ah acC;clear hW;go_wp2_with fail;refine(HX.o _ HK.o.rd).mono ?_;intro e w2 h';obtain⟨ao,cap,rfl,HG⟩:=got HK.o HZ.o h';clear h' HK HZ;obtain⟨⟨y0,y1,y2,y3⟩,f0,f1,f2,f3⟩:=Bv HG.o.2.1;have hlt2:w.heap.size<w2.heap.size:=(aI HG.o.2.1);unfold exV;go_wp2_with fail;exact bodyPost_ret (v:= .tuple #[exV x.op x.n x.nm x.kids ao cap,.bool true]) (by simp[results,Tryz.results205,go_sem,exV,y0,y1,y2,y3,hlt2]) rfl (O9 HG.o.1 HG.o.2.2)
theorem aZ8 (hn:TN r) (lv:Nat) (hlv:lv<=5) (HX:aj (∀w,eP w R ts->Calls Tryz.prog 205 #[.pointer (some ⟨R.br,0,none⟩),.int .i64 ((lv:Int)+1)] w (xP R w (.ok x r)))) (w:World) (hI:eP w R ts):
 Calls Tryz.prog 205 #[.pointer (some ⟨R.br,0,none⟩),.int .i64 (lv:Int)] w (xP R w (.ok x r)):=by
 have hq:decide ((5:Int)<(lv:Int))=false:=ado
 have bW4:(0:Int)<=(lv:Int):=ahf
 have bW5:(lv:Int)<=6:=ahf
 have HI:=ah hI;clear hI;go_enter Tryz.func205,Tryz.ntmps205;go_upto_region 1 with fail;generalize hW:World.alloc w _=W;have HK:aj (Wk R w W ts):=ah acJ;have HZ:aj (W.heap[w.heap.size]? =some (.cells #[.int .i64 0,.int .i64 0,.string ⟨#[]⟩,.slice none 0 0] 80 (0,0))):=ah acC;clear hW;go_wp2_with fail;refine(HX.o _ HK.o.rd).mono ?_;have oI:=HK;have HZ1:=HZ;clear HK HZ;rintro e w2 ⟨v,rfl,hv,h2,h3⟩;have qg:=ah (oI.o.then h2 h3);have HZ2:=ah ((oI.o.kept h3 (aD _) (aI HZ1.o)).trans HZ1.o);have jY:=ah (hv.mono (aI HZ1.o));clear h2 h3 oI HZ1 hv;obtain⟨ao,cap,rfl,hok,hst⟩:=jY.o;have HE:=ah (ay hok hst);clear hok hst jY;unfold exV;go_upto_region 4 with fail;generalize hW:World.alloc w2 _=W2;obtain⟨g,hg,-,-,HB3,-⟩:=oJ hW;have uG:aj (Wk R w W2 r):=ah aeH;have HZ3:aj (W2.heap[w.heap.size]? =some (.cells #[.int .i64 0,.int .i64 0,.string ⟨#[]⟩,.slice none 0 0] 80 (0,0))):=ah abu;have kF:aj (LK x∧iH (w.heap.size+1) W2 (λw2=>x.kids.At w2 w2.heap.size ao 0)):=ah ⟨HE.o.1,acv⟩;have HG:aj (w.heap.size<g):=ah (by rw[<- hg];exact(aI HZ2.o));have WK:aj (qI (w.heap.size+1) (some g) W2 (λw2=>x.kids.At w2 w2.heap.size ao 0)):=ah abw;rw[hg];clear hW hg qg HZ2 HE;go_wp2_with fail;go_loopw [8] (λ_ wr=>wr=W2) (λ_ _=>0)
 case atStart=>rfl
 case round=>subst hrel;have HOA:aj (Calls Tryz.prog 215 #[.pointer (some ⟨R.br,0,none⟩),.int .i64 (lv:Int)] wr λe w'=>e= .returned (.int .i64 0)∧Below wr.heap.size wr w'):=ah (by have:=Vh R r wr (lv:Int) uG.o.rd;rw[hn]at this;exact this);go_wp2_with fail;refine HOA.o.mono ?_;rintro e w3 ⟨rfl,h2⟩;have HK4:=ah (uG.o.below h2);have vK:aj (LK x∧iH (w.heap.size+1) w3 (λw2=>x.kids.At w2 w2.heap.size ao 0)):=ah ⟨kF.o.1,kF.o.2.next (bR h2)⟩;obtain⟨⟨y0,y1,y2,y3⟩,f0,f1,f2,f3⟩:=Bv ((h2.block _ (aI HZ3.o)).trans HZ3.o);obtain⟨⟨z0,z1,z2,z3⟩,d0,d1,d2,d3⟩:=af8 ((h2.block _ (aI HB3.o)).trans HB3.o);clear h2 uG HZ3 HB3 kF HOA WK;go_wp2_with fail;exact bodyPost_ret (v:= .tuple #[exV x.op x.n x.nm x.kids ao cap,.bool true]) (by simp[results,Tryz.results205,go_sem,exV,y0,y1,y2,y3]) rfl (O9 HK4.o vK.o)
theorem bn4 (HX:aj (∀w,eP w R ts->Calls Tryz.prog 205 #[.pointer (some ⟨R.br,0,none⟩),.int .i64 1] w (xP R w (.ok x r)))) (w:World) (hI:eP w R ts):
 Calls Tryz.prog 190 #[.pointer (some ⟨R.br,0,none⟩)] w (xP R w (.ok x r)):=by
 have HI:=ah hI;clear hI;go_enter Tryz.func190,Tryz.ntmps190;go_upto_region 1 with fail;generalize hW:World.alloc w _=W;have HK:aj (Wk R w W ts):=ah acJ;have HZ:aj (W.heap[w.heap.size]? =some (.cells #[.int .i64 0,.int .i64 0,.string ⟨#[]⟩,.slice none 0 0] 80 (0,0))):=ah acC;clear hW;go_wp2_with fail;refine(HX.o _ HK.o.rd).mono ?_;intro e w2 h';obtain⟨ao,cap,rfl,HG⟩:=got HK.o HZ.o h';clear h' HK HZ;obtain⟨⟨y0,y1,y2,y3⟩,f0,f1,f2,f3⟩:=Bv HG.o.2.1;have hlt2:w.heap.size<w2.heap.size:=(aI HG.o.2.1);unfold exV;go_wp2_with fail;exact bodyPost_ret (v:= .tuple #[exV x.op x.n x.nm x.kids ao cap,.bool true]) (by simp[results,Tryz.results190,go_sem,exV,y0,y1,y2,y3,hlt2]) rfl (O9 HG.o.1 HG.o.2.2)
end
theorem Xr (R:Rp) {ts r:bL} {x:E} (h:Ez ts x r) (hp: ∀w,eP w R ts->Calls Tryz.prog 217 #[.pointer (some ⟨R.br,0,none⟩)] w (xP R w (.ok x r))) (w:World) (hI:eP w R ts):
 Calls Tryz.prog 190 #[.pointer (some ⟨R.br,0,none⟩)] w (xP R w (.ok x r)):=by
 have b (n:Nat) (hn:n<=5):=aZ8 R ts r x h.noop n hn;exact bn4 R ts r x (ah (b 1 ahg (ah (b 2 ahg (ah (b 3 ahg (ah (b 4 ahg (ah (b 5 ahg (ah (aL5 R ts r x (ah (bq7 R ts r x h.name (ah hp))))))))))))))) w hI
theorem bp5 (R:Rp): ∀ {ts r:bL} {x:E},Ez ts x r->∀w,eP w R ts->Calls Tryz.prog 217 #[.pointer (some ⟨R.br,0,none⟩)] w (xP R w (.ok x r)):=by
 intro ts r x h
 induction h with
 |nm h1 h2=>rename_i ts _;intro w hI;have HI:=ah hI;have zi:aj ((tx (bT ts)).size<=maxLen):=ah (zy (zF hI.ts h1));clear hI;go_enter Tryz.func217,Tryz.ntmps217;go_upto_region 1 with fail;generalize hW:World.alloc w _=W;have HK:aj (Wk R w W ts):=ah acJ;have HZ:aj (W.heap[w.heap.size]? =some (.cells #[.int .i64 0,.int .i64 0,.string ⟨#[]⟩,.slice none 0 0] 80 (0,0))):=ah acC;clear hW;go_wp2_with fail;refine(ak6 R _ _ (ak4 h1) HK.o.rd).mono ?_;rintro e w0 ⟨rfl,h2⟩;have zh:=ah (HK.o.below h2);have HZ0:=jq h2 HZ;clear h2 HK HZ;have HK:=zh;have HZ:=HZ0;clear zh HZ0;go_wp2_with fail;refine(wG R _ _ h1 HK.o.rd).mono ?_;rintro e w0 ⟨rfl,h2,h3⟩;have zh:=ah (HK.o.then h2 h3);have HZ0:=ah ((HK.o.kept h3 (aD _) (aI HZ.o)).trans HZ.o);clear h2 h3 HK HZ;have HK:=zh;have HZ:=HZ0;clear zh HZ0;go_wp2_with fail;refine(qm R _ _ ⟨#[91]⟩ rfl h2 HK.o.rd).mono ?_;rintro e w0 ⟨rfl,h2⟩;have zh:=ah (HK.o.below h2);have HZ0:=jq h2 HZ;clear h2 HK HZ;have HK:=zh;have HZ:=HZ0;clear zh HZ0;obtain⟨⟨y0,y1,y2,y3⟩,f0,f1,f2,f3⟩:=Bv HZ.o;go_wp2_with fail;exact bodyPost_ret (v:= .tuple #[exV 2 0 (tx (bT ts)) .nil none 0,.bool true]) (by simp[results,Tryz.results217,go_sem,y0,y1,y2,y3,exV,bV.len]) rfl (ay4 HK.o ae8 Fg zi.o)
 |ix h1 h2 hx h4 hn ih=>rename_i ts r x;intro w hI;have HI:=ah hI;have HX:=ah (Xr R hx ih);have zi:aj ((tx (bT ts)).size<=maxLen):=ah (zy (zF hI.ts h1));obtain⟨nm,DJ⟩: ∃nm,aj (tx (bT ts)=nm):=⟨_,ah rfl⟩;rw[DJ.o]at zi⊢;clear hI ih hx hn;go_enter Tryz.func217,Tryz.ntmps217;go_upto_region 1 with fail;generalize hW:World.alloc w _=W;have HK:aj (Wk R w W ts):=ah acJ;have HZ:aj (W.heap[w.heap.size]? =some (.cells #[.int .i64 0,.int .i64 0,.string ⟨#[]⟩,.slice none 0 0] 80 (0,0))):=ah acC;clear hW;go_wp2_with fail;refine(ak6 R _ _ (ak4 h1) HK.o.rd).mono ?_;rintro e w0 ⟨rfl,h2⟩;have zh:=ah (HK.o.below h2);have HZ0:=jq h2 HZ;clear h2 HK HZ;have HK:=zh;have HZ:=HZ0;clear zh HZ0;go_wp2_with fail;refine(wG R _ _ h1 HK.o.rd).mono ?_;rw[DJ.o];rintro e w0 ⟨rfl,h2,h3⟩;have zh:=ah (HK.o.then h2 h3);have HZ0:=ah ((HK.o.kept h3 (aD _) (aI HZ.o)).trans HZ.o);clear h2 h3 HK HZ;have HK:=zh;have HZ:=HZ0;clear zh HZ0;go_wp2_with fail;refine(lM R _ _ ⟨#[91]⟩ rfl h2 HK.o.rd).mono ?_;rintro e w1 ⟨rfl,h2,h3⟩;have oI:=ah (HK.o.then h2 h3);have HZ1:=ah ((HK.o.kept h3 (aD _) (aI HZ.o)).trans HZ.o);clear h2 h3 HK HZ;go_wp2_with fail;refine(HX.o _ oI.o.rd).mono ?_;rintro e w2 ⟨v,rfl,hv,h2,h3⟩;have qg:=ah (oI.o.then h2 h3);have HZ2:=ah ((oI.o.kept h3 (aD _) (aI HZ1.o)).trans HZ1.o);have jY:=ah (hv.mono (aI HZ1.o));clear h2 h3 oI HZ1 hv;obtain⟨ao,cap,rfl,hok,hst⟩:=jY.o;have HE:=ah (ay hok hst);clear hok hst jY;unfold exV;go_upto_region 9 with fail;generalize hW:World.alloc w2 _=W2;obtain⟨g,hg,-,-,HB3,-⟩:=oJ hW;have uG:aj (Wk R w W2 r):=ah aeH;have HZ3:aj (W2.heap[w.heap.size]? =some (.cells #[.int .i64 0,.int .i64 0,.string ⟨#[]⟩,.slice none 0 0] 80 (0,0))):=ah abu;have kF:aj (LK x∧iH (w.heap.size+1) W2 (λw2=>x.kids.At w2 w2.heap.size ao 0)):=ah ⟨HE.o.1,acv⟩;have HG:aj (w.heap.size<g):=ah (by rw[<- hg];exact(aI HZ2.o));have WK:aj (qI (w.heap.size+1) (some g) W2 (λw2=>x.kids.At w2 w2.heap.size ao 0)):=ah abw;rw[hg];clear hW hg qg HZ2 HE;go_wp2_with fail;refine(lM R _ _ ⟨#[93]⟩ rfl h4 uG.o.rd).mono ?_;rintro e w3 ⟨rfl,h2,h3⟩;have qg:=ah (uG.o.then h2 h3);have HZ2:=ah ((uG.o.kept h3 (aD _) (aI HZ3.o)).trans HZ3.o);have HB2:=ah ((uG.o.kept h3 (bg HG.o) (aI HB3.o)).trans HB3.o);have HE:aj (LK x∧iH (w.heap.size+1) w3 (λw2=>x.kids.At w2 w2.heap.size ao 0)):=ah ⟨kF.o.1,kF.o.2.next (BJ h3 (Nat.lt_succ_of_lt uG.o.lt))⟩;clear h2 h3 uG HZ3 HB3 kF;obtain⟨⟨y0,y1,y2,y3⟩,f0,f1,f2,f3⟩:=Bv HZ2.o;obtain⟨z0,z1,z2,z3⟩:=cl4 HB2.o;have hlt2:w.heap.size<w3.heap.size:=(aI HZ2.o);have hlt3:g<w3.heap.size:=(aI HB2.o);go_wp2_with fail;exact bodyPost_ret (v:= .tuple #[exV 3 0 nm (.cons x.op x.n x.nm x.kids .nil) (some ⟨w3.heap.size,0,none⟩) 1,.bool true]) (by simp[results,Tryz.results217,go_sem,exV,bV.len,y0,y1,y2,y3,hlt2]) rfl (bg8 zi.o qg.o hlt2 HE.o)
theorem aM5 (R:Rp) {ts r:bL} {x:E} (h:Ez ts x r) (w:World) (hI:eP w R ts):Calls Tryz.prog 190 #[.pointer (some ⟨R.br,0,none⟩)] w (xP R w (.ok x r)):=Xr R h (bp5 R h) w hI
end Go.Proofs.YtcjgfgkllmldpaaGreatDoor
end
section
namespace Go.Proofs.YtcjgfgkllmldpaaGreatDoor
open Go.RowKit
open Md Pz
structure Sx where
 h:dM
 b:bf
 e:bf
structure Fr (br bs:Nat) (w w':World):Prop where
 os:w'.os=w.os
 tape:w'.tape=w.tape
 output:w'.output=w.output
 size:w.heap.size<=w'.heap.size
 block: ∀k,k<w.heap.size->k≠br->k≠bs->w'.heap[k]? =w.heap[k]?
section
variable {br bs:Nat} {w w1 w2 w':World}
theorem Fr.refl (br bs:Nat) (w:World):Fr br bs w w:=⟨rfl,rfl,rfl,aD _,λ_ _ _ _=>rfl⟩
theorem Fr.trans (h:Fr br bs w w1) (k:Fr br bs w1 w2):Fr br bs w w2:=
 ⟨k.os.trans h.os,k.tape.trans h.tape,k.output.trans h.output,aO h.size k.size,λj hj h1 h2=>(k.block j (aV hj h.size) h1 h2).trans (h.block j hj h1 h2)⟩
theorem Fr.wX (h:w.grownBy w' (some br)):Fr br bs w w':=⟨h.os,h.tape,h.output,h.size,λk hk h1 _=>h.block k hk ah7⟩
theorem Fr.set (h:Fr br bs w w') (a:Addr) (v:Value) (ha:a.block=bs∨w.heap.size<=a.block):Fr br bs w (w'.setCell a v):=
 ⟨h.os,h.tape,h.output,aa5,λk hk h1 h2=>(bF w' a v rfl ahf).trans (h.block k hk h1 h2)⟩
theorem Fr.gr (h:Fr br bs w1 w') (hb:Below w.heap.size w w1) (hs:w.heap.size<=bs):w.grownBy w' (some br):=
 ⟨h.os.trans hb.os,h.tape.trans hb.tape,h.output.trans hb.output,aO hb.size h.size,λk hk h1=>(h.block k (aV hk hb.size) ahm ahf).trans (hb.block k hk)⟩
end
def zS:Sl:=⟨none,0,none,0,none,0,none,0⟩
structure Pm (R:Rp) (bs B:Nat) (w:World) (x:bU) (rest:bL):Prop where
 rd:eP w R rest
 lt:bs<B∧R.br<B
 ne:bs≠R.br
 b0:R.B0<=bs
 sz:B<=w.heap.size
 blk:w.heap[bs]? =some (.cells (bU.f x).toArray 82 (0,0))
 ok:A9 x.h x.b x.e
 st:iH B w (bU.I x)
section
variable {R:Rp} {bs B:Nat} {w W W':World} {x:bU} {rest rest':bL}
theorem Pm.then (h:Pm R bs B W x rest) (h1:eP W' R rest') (h2:W.grownBy W' (some R.br)):Pm R bs B W' x rest':=
 ⟨h1,h.lt,h.ne,h.b0,aO h.sz h2.size,(h2.block _ (aV h.lt.1 h.sz) (by simp;exact h.ne)).trans h.blk,h.ok,h.st.next (BJ h2 h.lt.2)⟩
theorem Pm.below (h:Pm R bs B W x rest) (hb:Below W.heap.size W W'):Pm R bs B W' x rest:=h.then (h.rd.below hb) (kD hb)
theorem Pm.put (h:Pm R bs B W x rest) (j:Nat) (v:Value) {y:bU} (hy:(bU.f x).toArray.setIfInBounds j v=(bU.f y).toArray) (hok:A9 y.h y.b y.e) (hst:iH B W (bU.I y)):Pm R bs B (W.setCell ⟨bs,j,none⟩ v) y rest:=
 ⟨wN h.rd _ v h.b0 h.ne,h.lt,h.ne,h.b0,by have:=h.sz;simpa[World.setCell]using this,by rw[dQ h.blk,hy],hok,hst.next (iM W ⟨bs,j,none⟩ v h.lt.1)⟩
theorem Pm.nm (h:Pm R bs B W x rest) (s:ByteArray) (hs:s.size<=maxLen):Pm R bs B (W.setCell ⟨bs,2,none⟩ (.string s)) ⟨{x.h with nm:=s},x.b,x.e,x.s⟩ rest:=
 h.put 2 _ rfl ⟨h.ok.1,h.ok.2.1,hs,h.ok.2.2.2⟩ h.st
theorem Pm.arg (h:Pm R bs B W x rest) (s:ByteArray) (hs:s.size<=maxLen):Pm R bs B (W.setCell ⟨bs,3,none⟩ (.string s)) ⟨{x.h with arg:=s},x.b,x.e,x.s⟩ rest:=
 h.put 3 _ rfl ⟨h.ok.1,h.ok.2.1,h.ok.2.2.1,hs,h.ok.2.2.2.2⟩ h.st
theorem Pm.op (h:Pm R bs B W x rest) (n:Int) (hn:cO n):Pm R bs B (W.setCell ⟨bs,0,none⟩ (.int .i64 n)) ⟨{x.h with op:=n},x.b,x.e,x.s⟩ rest:=
 h.put 0 _ rfl ⟨hn,h.ok.2⟩ h.st
theorem Pm.idx (h:Pm R bs B W x rest) (l:bV) (ao:Option Addr) (cap:Nat) (hl:l.len<=maxLen) (hst:iH B W (λw2=>l.At w2 w2.heap.size ao 0)):
 Pm R bs B (W.setCell ⟨bs,4,none⟩ (.slice ao l.len cap)) ⟨{x.h with idx:=l},x.b,x.e,{x.s with gu:=ao,eG:=cap}⟩ rest:=
 h.put 4 _ rfl ⟨h.ok.1,h.ok.2.1,h.ok.2.2.1,h.ok.2.2.2.1,hl,h.ok.2.2.2.2.2⟩ (λw2 h2=>⟨hst w2 h2,(h.st w2 h2).2⟩)
theorem Pm.body (h:Pm R bs B W x rest) (l:bf) (ao:Option Addr) (cap:Nat) (hl:l.len<=maxLen) (hst:iH B W (λw2=>l.At w2 w2.heap.size ao 0)):
 Pm R bs B (W.setCell ⟨bs,9,none⟩ (.slice ao l.len cap)) ⟨x.h,l,x.e,{x.s with dR:=ao,dA:=cap}⟩ rest:=
 h.put 9 _ rfl ⟨h.ok.1,h.ok.2.1,h.ok.2.2.1,h.ok.2.2.2.1,h.ok.2.2.2.2.1,h.ok.2.2.2.2.2.1,hl,h.ok.2.2.2.2.2.2.2⟩ (λw2 h2=>⟨(h.st w2 h2).1,(h.st w2 h2).2.1,hst w2 h2,(h.st w2 h2).2.2.2⟩)
def ZK (w:World) (b:Nat) (v0 v1 v2 v3:Value):World:=(((w.setCell ⟨b,5,none⟩ v0).setCell ⟨b,6,none⟩ v1).setCell ⟨b,7,none⟩ v2).setCell ⟨b,8,none⟩ v3
theorem Pm.ex (h:Pm R bs B W x rest) (y:E) (ao:Option Addr) (cap:Nat) (hy:LK y) (hst:iH B W (λw2=>y.kids.At w2 w2.heap.size ao 0)):
 Pm R bs B (ZK W bs (.int .i64 y.op) (.int .i64 y.n) (.string y.nm) (.slice ao y.kids.len cap)) ⟨dM.ex x.h y,x.b,x.e,{x.s with gY:=ao,fD:=cap}⟩ rest:=by
 have ha:kT B W (ZK W bs (.int .i64 y.op) (.int .i64 y.n) (.string y.nm) (.slice ao y.kids.len cap)):=by have x1:kT B W _:=iM W ⟨bs,5,none⟩ (.int .i64 y.op) h.lt.1;have x2:=x1.trans (iM _ ⟨bs,6,none⟩ (.int .i64 y.n) h.lt.1);have x3:=x2.trans (iM _ ⟨bs,7,none⟩ (.string y.nm) h.lt.1);exact x3.trans (iM _ ⟨bs,8,none⟩ (.slice ao y.kids.len cap) h.lt.1)
 refine⟨wN (wN (wN (wN h.rd _ _ h.b0 h.ne) _ _ h.b0 h.ne) _ _ h.b0 h.ne) _ _ h.b0 h.ne,h.lt,h.ne,h.b0,aO h.sz ha.1,?_,⟨h.ok.1,h.ok.2.1,h.ok.2.2.1,h.ok.2.2.2.1,h.ok.2.2.2.2.1,hy,h.ok.2.2.2.2.2.2⟩,?_⟩
 ·unfold ZK;rw[dQ (dQ (dQ (dQ h.blk _) _) _) _];rfl
 ·exact λw2 h2=>⟨(h.st w2 (ha.trans h2)).1,hst w2 (ha.trans h2),(h.st w2 (ha.trans h2)).2.2⟩
theorem Pm.cell (h:Pm R bs B W x rest) {j:Nat} {u:Value} (hu:(bU.f x).toArray[j]? =some u):W.cell? ⟨bs,j,none⟩=some u:=aG h.blk hu
theorem Pm.free (h:Pm R bs B W x rest) (j:Nat):W.frozen? ⟨bs,j,none⟩=false:=bG h.blk
end
def YN (R:Rp) (bs B:Nat) (w:World) (res:yw Sx) (e:Ending) (w':World):Prop:=
 match res with
 | .ok y r=>e= .returned (.bool true)∧(∃s,Pm R bs B w' ⟨y.h,y.b,y.e,s⟩ r)∧Fr R.br bs w w'
 | .no r=>e= .returned (.bool false)∧(∃x,Pm R bs B w' x r)∧Fr R.br bs w w'
def bC8 (R:Rp) (w:World) (res:yw bf) (e:Ending) (w':World):Prop:=
 match res with
 | .ok b r=>(∃ao cap,e= .returned (.tuple #[.slice ao b.len cap,.bool true])∧b.len<=4096∧iH w.heap.size w' (λw2=>b.At w2 w2.heap.size ao 0))∧eP w' R r∧w.grownBy w' (some R.br)
 | .no r=>e= .returned (.tuple #[.slice none 0 0,.bool false])∧eP w' R r∧w.grownBy w' (some R.br)
theorem Vy {R:Rp} {bs B:Nat} {w W:World} {y:Sx} {s:Sl} {r:bL} (h:Pm R bs B W ⟨y.h,y.b,y.e,s⟩ r) (hf:Fr R.br bs w W):YN R bs B w (.ok y r) (.returned (.bool true)) W:=⟨rfl,⟨s,h⟩,hf⟩
theorem br0:LK ⟨0,0,⟨#[]⟩,.nil⟩:=⟨Fg,Fg,bC _,bC _⟩
def FB:Array Value:= #[.int .i64 0,.int .i64 0,.string ⟨#[]⟩,.string ⟨#[]⟩,.slice none 0 0,.int .i64 0,.int .i64 0,.string ⟨#[]⟩,.slice none 0 0,.slice none 0 0,.slice none 0 0]
theorem ED {w w':World} {R:Rp} {rest:bL} {b:Nat} (h:eP w R rest) (hg:w.grownBy w' (some b)) (h0:R.B0<=b) (h1:b≠R.br):eP w' R rest:=by
 obtain⟨pos,k1,k2,k3⟩:=h.blk;exact⟨⟨pos,k1,k2,(hg.block _ h.lt ahi).trans k3⟩,h.tok.below (cB hg h0 (aO R.b0 (bg h.lt))),h.ok,h.tl⟩
theorem yD {br:Nat} {w w':World} (h:w.grownBy w' (some br)) (b o:Nat) (vs:List Value) (hb:w.heap.size<=b):w.grownBy (w'.setCells b o vs) (some br):=
 have k:=dZ b vs o w'
 ⟨k.os.trans h.os,k.tape.trans h.tape,k.output.trans h.output,aO h.size k.size,λj hj hn=>(k.block j (aV hj h.size) ahi).trans (h.block j hj hn)⟩
def aY7 (R:Rp) (w:World) (y:Sx) (r:bL) (e:Ending) (w':World):Prop:= ∃s,e= .returned (.tuple #[iG y.h y.b y.e s,.bool true])∧(A9 y.h y.b y.e∧iH w.heap.size w' (bU.I ⟨y.h,y.b,y.e,s⟩))∧eP w' R r∧w.grownBy w' (some R.br)
theorem am7 {R:Rp} {bs B:Nat} {w W:World} {y:Sx} {s:Sl} {r:bL} (hP:Pm R bs B W ⟨y.h,y.b,y.e,s⟩ r) (hg:w.grownBy W (some R.br)) (hl:R.br<w.heap.size) (hB:w.heap.size<B):
 aY7 R w y r (.returned (.tuple #[iG y.h y.b y.e s,.bool true])) (W.setCells w.heap.size 0 (bU.f ⟨y.h,y.b,y.e,s⟩)):=
 ⟨s,rfl,⟨hP.ok,(hP.st.next ⟨(dZ w.heap.size _ 0 W).size,λk h1 h2=>(dZ w.heap.size _ 0 W).block k h2 ahi⟩).mono (bg hB)⟩,ED hP.rd (dZ _ _ _ _) agm ahf,yD hg _ _ _ (aD _)⟩
theorem z11 {w:World} {b:Nat} {t:TypeId} (h:w.heap[b]? =some (.cells FB t (0,0))):
 (w.cell? ⟨b,0,none⟩=some (.int .i64 0)∧w.cell? ⟨b,1,none⟩=some (.int .i64 0)∧w.cell? ⟨b,2,none⟩=some (.string ⟨#[]⟩)∧w.cell? ⟨b,3,none⟩=some (.string ⟨#[]⟩)∧w.cell? ⟨b,4,none⟩=some (.slice none 0 0)∧w.cell? ⟨b,5,none⟩=some (.int .i64 0)∧w.cell? ⟨b,6,none⟩=some (.int .i64 0)∧w.cell? ⟨b,7,none⟩=some (.string ⟨#[]⟩)∧w.cell? ⟨b,8,none⟩=some (.slice none 0 0)∧w.cell? ⟨b,9,none⟩=some (.slice none 0 0)∧w.cell? ⟨b,10,none⟩=some (.slice none 0 0))∧∀j,w.frozen? ⟨b,j,none⟩=false:=
 ⟨⟨aG h rfl,aG h rfl,aG h rfl,aG h rfl,aG h rfl,aG h rfl,aG h rfl,aG h rfl,aG h rfl,aG h rfl,aG h rfl⟩,λ_=>bG h⟩
theorem Vj {R:Rp} {bs B:Nat} {W:World} {x:bU} {r:bL} (h:Pm R bs B W x r):
 W.cell? ⟨bs,0,none⟩=some (.int .i64 x.h.op)∧W.cell? ⟨bs,1,none⟩=some (.int .i64 x.h.line)∧W.cell? ⟨bs,2,none⟩=some (.string x.h.nm)∧W.cell? ⟨bs,3,none⟩=some (.string x.h.arg)∧W.cell? ⟨bs,4,none⟩=some (.slice x.s.gu x.h.idx.len x.s.eG)∧W.cell? ⟨bs,5,none⟩=some (.int .i64 x.h.dY)∧W.cell? ⟨bs,6,none⟩=some (.int .i64 x.h.xn)∧W.cell? ⟨bs,7,none⟩=some (.string x.h.dX)∧W.cell? ⟨bs,8,none⟩=some (.slice x.s.gY x.h.bM.len x.s.fD)∧W.cell? ⟨bs,9,none⟩=some (.slice x.s.dR x.b.len x.s.dA)∧W.cell? ⟨bs,10,none⟩=some (.slice x.s.jc x.e.len x.s.gZ):=
 ⟨h.cell rfl,h.cell rfl,h.cell rfl,h.cell rfl,h.cell rfl,h.cell rfl,h.cell rfl,h.cell rfl,h.cell rfl,h.cell rfl,h.cell rfl⟩
theorem Vt {R:Rp} {w w1:World} {ts:bL} {kv:Value} {sv:Value} (hI:eP w R ts) (hB:Below w.heap.size w w1) (hz:w1.heap[w.heap.size]? =some (.cells FB 82 (0,0))) (hL:cO ((gH ts:Nat):Int)) (gt:Nat) (hg:w1.heap.size=gt):
 ∀W,((w1.alloc (.cells #[kv,sv,.int .i64 ((gH ts:Nat):Int)] 164)).alloc (.cells #[.int .i64 0,.int .i64 ((gH ts:Nat):Int),.string ⟨#[]⟩,.string ⟨#[]⟩,.slice none 0 0,.int .i64 0,.int .i64 0,.string ⟨#[]⟩,.slice none 0 0,.slice none 0 0,.slice none 0 0] 82))=W->
 Pm R (gt+1) (gt+2) W ⟨hd 0 ((gH ts:Nat):Int),.nil,.nil,zS⟩ ts∧Below w.heap.size w W∧W.heap[w.heap.size]? =some (.cells FB 82 (0,0))∧W.cell? ⟨gt,0,none⟩=some kv∧W.cell? ⟨gt,1,none⟩=some sv∧w.heap.size<gt:=by
 intro W hW;have h0:=(aI hz);have hb1:Below w.heap.size w (w1.alloc (.cells #[kv,sv,.int .i64 ((gH ts:Nat):Int)] 164)):=hB.alloc hB.size _;have ht:(w1.alloc (.cells #[kv,sv,.int .i64 ((gH ts:Nat):Int)] 164)).heap[gt]? =some (.cells #[kv,sv,.int .i64 ((gH ts:Nat):Int)] 164 (0,0)):=by rw[<- hg];exact heap_alloc_new _ _
 have hz1:(w1.alloc (.cells #[kv,sv,.int .i64 ((gH ts:Nat):Int)] 164)).heap[w.heap.size]? =some (.cells FB 82 (0,0)):=(heap_alloc_old _ _ h0).trans hz;have hs1:(w1.alloc (.cells #[kv,sv,.int .i64 ((gH ts:Nat):Int)] 164)).heap.size=gt+1:=by simp[hg]
 generalize w1.alloc (.cells #[kv,sv,.int .i64 ((gH ts:Nat):Int)] 164)=W1 at *;have hb2:Below w.heap.size w W:=aee
 have ht2:W.heap[gt]? =some (.cells #[kv,sv,.int .i64 ((gH ts:Nat):Int)] 164 (0,0)):=by rw[<- hW];exact(heap_alloc_old _ _ (aI ht)).trans ht
 refine⟨⟨hI.below hb2,⟨ahf,by have:=hI.lt;omega⟩,by have:=hI.lt;omega,by have:=hI.lt;have:=R.b0;omega,agN,acw,⟨Fg,hL,bC _,bC _,bC _,br0,bC _,bC _⟩,λ_ _=>⟨trivial,trivial,trivial,trivial⟩⟩,hb2,?_,aG ht2 rfl,aG ht2 rfl,ahf⟩;rw[<- hW];exact(heap_alloc_old _ _ (aI hz1)).trans hz1
theorem Ir {w:World} {R:Rp} {ts:bL} (hI:eP w R ts):cO ((gH ts:Nat):Int):=by
 cases ts with
 |nil=>exact Fg
 |cons t r=>have:=(hI.tsl t ahh).1;show cO (t.line:Int);unfold cO;omega
theorem Lm {br bs k:Nat} {w w':World} {o:Obj} (h:Fr br bs w w') (hk:w.heap[k]? =some o) (h1:k≠br) (h2:k≠bs):w'.heap[k]? =some o:=(h.block k (aI hk) h1 h2).trans hk
theorem aM9:(Tryz.prog.info? 82).map (λi=>(i.zero,i.size,i.bytes))=some (some (.agg FB),11,176):=ahe
theorem bg0: ∃i0,Tryz.prog.info? 82=some i0∧i0.zero=some (.agg FB)∧i0.size=11∧i0.bytes=176:=info_parts aM9
theorem aC0 (x:bU): ∀u∈bU.f x,u.oneCell'=true:=by
 intro u hu;simp[bU.f]at hu;rcases hu with rfl|rfl|rfl|rfl|rfl|rfl|rfl|rfl|rfl|rfl|rfl <;> rfl
theorem yA {B:Nat} {w w':World} {g:Option Nat} (h:w.grownBy w' g) (hg: ∀k,g=some k->B<=k) (hB:B<=w.heap.size):Below B w w':=
 ⟨h.os,h.tape,h.output,h.size,λk hk=>h.block k ahf (λe=>by have:=hg k e.symm;omega)⟩
theorem P5 {w w':World} {R:Rp} {rest:bL} {g:Option Nat} (h:eP w R rest) (hg:w.grownBy w' g) (h0: ∀k,g=some k->R.B0<=k∧k≠R.br):eP w' R rest:=by
 obtain⟨pos,k1,k2,k3⟩:=h.blk;exact⟨⟨pos,k1,k2,(hg.block _ h.lt (λe=>(h0 _ e.symm).2 rfl)).trans k3⟩,h.tok.below (yA hg (λk hk=>(h0 k hk).1) (aO R.b0 (bg h.lt))),h.ok,h.tl⟩
theorem Oj {br:Nat} {w w1 w2:World} (h:w.grownBy w1 (some br)) (hb:Below w.heap.size w1 w2):w.grownBy w2 (some br):=
 ⟨hb.os.trans h.os,hb.tape.trans h.tape,hb.output.trans h.output,aO h.size hb.size,λk hk hn=>(hb.block k hk).trans (h.block k hk hn)⟩
def Gn (R:Rp) (ts:bL) (y:Sx) (r:bL):Prop:= ∀w,eP w R ts->Calls Tryz.prog 169 #[.pointer (some ⟨R.br,0,none⟩)] w (aY7 R w y r)
def wR (R:Rp) (ts:bL) (b:bf) (r:bL):Prop:= ∀w,eP w R ts->Calls Tryz.prog 145 #[.pointer (some ⟨R.br,0,none⟩)] w (bC8 R w (.ok b r))
set_option maxHeartbeats 4000000
theorem aZ3 (R:Rp) (bs B:Nat) (r q:bL) (x:E) (h:dM) (s:Sl) (w:World) (hp:Pm R bs B w ⟨h,.nil,.nil,s⟩ r) (hn:isName r=true) (h1:at' [91] r.tail=false) (h5:at' [61] r.tail=true) (hx:Ez r.tail.tail x q) (h4:at' [59] q=true):
 Calls Tryz.prog 180 #[.pointer (some ⟨R.br,0,none⟩),.pointer (some ⟨bs,0,none⟩)] w (YN R bs B w (.ok ⟨dM.ex {h with nm:=tx (bT r)} x,.nil,.nil⟩ q.tail)):=by
 have HP:=ah hp;have zi:aj ((tx (bT r)).size<=maxLen):=ah (zy (zF hp.rd.ts hn));have HC:=ah (aM5 R hx);clear hp hx;go_enter Tryz.func180,Tryz.ntmps180;go_wp2_with fail;refine(wG R _ _ hn HP.o.rd).mono ?_;rintro e w1 ⟨rfl,h2,h3⟩;have mI:=ah (HP.o.then h2 h3);have HF:=ah (Fr.wX (br:=R.br) (bs:=bs) h3);clear h2 h3 HP;have c2:=mI.o.cell (j:=2) rfl;have f2:=mI.o.free 2;go_upto_region 3 with fail;generalize hW:World.setCell w1 _ _=W;have jC:aj (Pm R bs B W ⟨{h with nm:=tx (bT r)},.nil,.nil,s⟩ r.tail):=ah aes;have yj:aj (Fr R.br bs w W):=ah adH;clear hW c2 f2 mI HF;go_wp2_with fail;refine(qm R _ _ ⟨#[91]⟩ rfl h1 jC.o.rd).mono ?_;rintro e w0 ⟨rfl,h2⟩;have vO:=ah (jC.o.below h2);have HF6:=ah (yj.o.trans (Fr.wX (kD h2)));clear h2 jC yj;go_wp2_with fail;refine(lM R _ _ ⟨#[61]⟩ rfl h5 vO.o.rd).mono ?_;rintro e w7 ⟨rfl,h2,h3⟩;have EP:=ah (vO.o.then h2 h3);have HF7:=ah (HF6.o.trans (Fr.wX h3));clear h2 h3 vO HF6;go_wp2_with fail;refine(HC.o _ EP.o.rd).mono ?_;rintro e w3 ⟨v,rfl,hv,h2,h3⟩;have qC:=ah (EP.o.then h2 h3);have tu:=ah (HF7.o.trans (Fr.wX h3));have HV:=ah (hv.mono EP.o.sz);clear h2 h3 hv EP HF7;obtain⟨ao,cap,rfl,hok,hst⟩:=HV.o;have HE:=ah (ay hok hst);clear hok hst HV;have c5:=qC.o.cell (j:=5) rfl;have c6:=qC.o.cell (j:=6) rfl;have c7:=qC.o.cell (j:=7) rfl;have c8:=qC.o.cell (j:=8) rfl;have f5:=qC.o.free 5;have f6:=qC.o.free 6;have f7:=qC.o.free 7;have f8:=qC.o.free 8;unfold exV;go_upto_region 13 with fail;generalize hW:World.setCell (World.setCell (World.setCell (World.setCell w3 _ _) _ _) _ _) _ _=W5;have Td:aj (Pm R bs B W5 ⟨dM.ex {h with nm:=tx (bT r)} x,.nil,.nil,{s with gY:=ao,fD:=cap}⟩ q):=ah (by rw[<- hW];exact qC.o.ex x ao cap HE.o.1 HE.o.2);have HF5:aj (Fr R.br bs w W5):=ah (by rw[<- hW];exact(((tu.o.set _ _ (.inl rfl)).set _ _ (.inl rfl)).set _ _ (.inl rfl)).set _ _ (.inl rfl));clear hW c5 c6 c7 c8 f5 f6 f7 f8 qC tu HE;go_wp2_with fail;refine(lM R _ _ ⟨#[59]⟩ rfl h4 Td.o.rd).mono ?_;rintro e w3 ⟨rfl,h2,h3⟩;have qC:=ah (Td.o.then h2 h3);have tu:=ah (HF5.o.trans (Fr.wX h3));clear h2 h3;go_wp2_with fail;go_ret;exact Vy (y:=⟨dM.ex {h with nm:=tx (bT r)} x,.nil,.nil⟩) qC.o tu.o
theorem aA1 (R:Rp) (bs B:Nat) (r q:bL) (b:bf) (vJ:aj (wR R r b q)) (h:dM) (s:Sl) (w:World) (hp:Pm R bs B w ⟨h,.nil,.nil,s⟩ r):
 Calls Tryz.prog 194 #[.pointer (some ⟨R.br,0,none⟩),.pointer (some ⟨bs,0,none⟩)] w (YN R bs B w (.ok ⟨h,b,.nil⟩ q)):=by
 have HP:=ah hp;have HC:=ah (vJ.o w hp.rd);clear hp vJ;go_enter Tryz.func194,Tryz.ntmps194;go_wp2_with fail;refine HC.o.mono ?_;rintro e w1 ⟨⟨ao,cap,rfl,hl,hst⟩,h2,h3⟩;have mI:=ah (HP.o.then h2 h3);have HF:=ah (Fr.wX (bs:=bs) h3);have HL:aj (b.len<=maxLen):=ah (aO hl afa);have HS:=ah (hst.mono HP.o.sz);clear h2 h3 HP hl hst;have c9:=mI.o.cell (j:=9) rfl;have f9:=mI.o.free 9;go_wp2_with fail;go_ret;exact Vy (y:=⟨h,b,.nil⟩) (mI.o.body b ao cap HL.o HS.o) (HF.o.set _ _ (.inl rfl))
theorem RN (R:Rp) (bs B:Nat) (r q:bL) (b:bf) (hn:isName r=true) (vJ:aj (wR R r.tail b q)) (h:dM) (s:Sl) (w:World) (hp:Pm R bs B w ⟨h,.nil,.nil,s⟩ r):
 Calls Tryz.prog 193 #[.pointer (some ⟨R.br,0,none⟩),.pointer (some ⟨bs,0,none⟩)] w (YN R bs B w (.ok ⟨{h with nm:=tx (bT r)},b,.nil⟩ q)):=by
 have HP:=ah hp;have zi:aj ((tx (bT r)).size<=maxLen):=ah (zy (zF HP.o.rd.ts hn));have HC:=ah (aA1 R bs B r.tail q b vJ {h with nm:=tx (bT r)} s);clear hp vJ;go_enter Tryz.func193,Tryz.ntmps193;go_wp2_with fail;refine(wG R _ _ hn HP.o.rd).mono ?_;rintro e w1 ⟨rfl,h2,h3⟩;have mI:=ah (HP.o.then h2 h3);have HF:=ah (Fr.wX (br:=R.br) (bs:=bs) h3);clear h2 h3 HP;have c2:=mI.o.cell (j:=2) rfl;have f2:=mI.o.free 2;go_upto_region 3 with fail;generalize hW:World.setCell w1 _ _=W;have jC:aj (Pm R bs B W ⟨{h with nm:=tx (bT r)},.nil,.nil,s⟩ r.tail):=ah aes;have yj:aj (Fr R.br bs w W):=ah adH;clear hW c2 f2 mI HF;go_wp2_with fail;refine(HC.o _ jC.o).mono ?_;rintro e w3 ⟨rfl,⟨x,h2⟩,h3⟩;have qC:=ah h2;have tu:=ah (yj.o.trans h3);clear h2 h3;go_wp2_with fail;go_ret;exact Vy (y:=⟨{h with nm:=tx (bT r)},b,.nil⟩) qC.o tu.o
theorem aP7 (R:Rp) (ts q:bL) (x:E) (h1:nextK ts=1) (h2:at' [91] ts.tail=false) (h5:at' [61] ts.tail=true) (hx:Ez ts.tail.tail x q) (h4:at' [59] q=true):
 Gn R ts ⟨dM.ex {hd 1 ((gH ts:Nat):Int)with nm:=tx (bT ts)} x,.nil,.nil⟩ q.tail:=by
 intro w hI;have hn:isName ts=true:=by unfold isName;rw[h1];rfl
 have hk:=h1;clear h1;have xq:=ah (λgt W hP=>aZ3 R (gt+1) (gt+2) ts q x (hd 1 ((gH ts:Nat):Int)) zS W hP hn h2 h5 hx h4);obtain⟨Y,HY⟩: ∃Y:Sx,aj ((⟨dM.ex {hd 1 ((gH ts:Nat):Int)with nm:=tx (bT ts)} x,.nil,.nil⟩:Sx)=Y):=⟨_,ah rfl⟩;rw[HY.o]at xq⊢;clear h2 h5 hx h4 HY hn;have HI:=ah hI;have HL:=ah (Ir hI);have hlt:=hI.lt;go_enter Tryz.func169,Tryz.ntmps169;go_upto_region 1 with fail;generalize hW:World.alloc w _=W0;have HB0:aj (Below w.heap.size w W0):=ah afd;have HZ0:aj (W0.heap[w.heap.size]? =some (.cells FB 82 (0,0))):=ah acC;have HN:=ah (rX R ts W0 (HI.o.below HB0.o));unfold yY at HN;rw[hk]at HN;clear hW hI hk;go_wp2_with fail;refine HN.o.mono ?_;rintro e w1 ⟨rfl,h2⟩;have HB1:=ah (HB0.o.trans (h2.mono HB0.o.size));have HZ1:=jq h2 HZ0;clear h2 HN HB0 HZ0;go_upto_region 3 with fail;obtain⟨gt,hg⟩: ∃g,w1.heap.size=g:=⟨_,rfl⟩;rw[hg];generalize hW:World.alloc (World.alloc w1 _) _=W2;have jC:=ah (Vt HI.o HB1.o HZ1.o HL.o gt hg W2 hW);have e0:=jC.o.2.2.2.1;have e1:=jC.o.2.2.2.2.1;have kW:aj (R.br<w.heap.size∧w.heap.size<gt):=ah ⟨hlt,jC.o.2.2.2.2.2⟩;clear hW hg HB1 HZ1;have f0:=jC.o.1.free 0;have c0:=jC.o.1.cell (j:=0) rfl;go_upto_region 6 with fail;generalize hW:World.setCell W2 _ _=W3;have qC:aj (Pm R (gt+1) (gt+2) W3 ⟨hd 1 ((gH ts:Nat):Int),.nil,.nil,zS⟩ ts):=ah (by rw[<- hW];exact jC.o.1.op 1 ae8);have tu:aj (Fr R.br (gt+1) W2 W3):=ah abU;clear hW f0 c0 e0 e1;have HC:=ah (xq.o gt W3 qC.o);clear xq;go_wp2_with fail;refine HC.o.mono ?_;rintro e w4 ⟨rfl,⟨s,h2⟩,h3⟩;have xC:=ah h2;have Ck:=ah (tu.o.trans h3);clear h2 h3;have zX:=ah (Lm Ck.o jC.o.2.2.1 afn afn);obtain⟨⟨y0,y1,y2,y3,y4,y5,y6,y7,y8,y9,jM⟩,fz⟩:=z11 zX.o;have z0:=fz 0;have z1:=fz 1;have z2:=fz 2;have z3:=fz 3;have z4:=fz 4;have z5:=fz 5;have z6:=fz 6;have z7:=fz 7;have z8:=fz 8;have z9:=fz 9;have dV:=fz 10;obtain⟨d0,d1,d2,d3,d4,d5,d6,d7,d8,d9,tN⟩:=Vj xC.o;clear fz;go_wp2_with fail;exact bodyPost_ret (v:= .tuple #[iG Y.h Y.b Y.e s,.bool true]) aaE rfl (am7 xC.o (Ck.o.gr jC.o.2.1 afn) kW.o.1 afn)
theorem aM3 (w:World):(binOp .eql 230 (.func (.func 193) #[] #[]) .nilFunc).run Tryz.prog w= .ok (.bool false) w:=ahe
theorem aB9 (R:Rp) (ts q:bL) (b:bf) (h1:nextK ts=3) (h2:Vr (bT ts)=4) (hn:isName ts.tail=true) (vJ:aj (wR R ts.tail.tail b q)):
 Gn R ts ⟨{hd 4 ((gH ts:Nat):Int)with nm:=tx (bT ts.tail)},b,.nil⟩ q:=by
 intro w hI;obtain⟨t0,r0,hr⟩: ∃t r,ts=t::r:=by
  cases ts with
  |nil=>exact absurd h1 (by simp[nextK])
  |cons t r=>exact⟨t,r,rfl⟩
 have Qz:=ah hr;have WZ:aj (∀w,Calls Tryz.prog 181 #[.string (tx (bT ts))] w λe w'=>e= .returned (.tuple #[.int .i64 4,.func (.func 193) #[] #[]])∧w=w'):=ah (λw=>by have:=aA3 (tx (bT ts)) (l:=bT ts) rfl w;rw[h2]at this;exact this);have hk:=h1;have xq:=ah (λgt W hP=>RN R (gt+1) (gt+2) ts.tail q b hn vJ (hd 4 ((gH ts:Nat):Int)) zS W hP);obtain⟨Y,HY⟩: ∃Y:Sx,aj ((⟨{hd 4 ((gH ts:Nat):Int)with nm:=tx (bT ts.tail)},b,.nil⟩:Sx)=Y):=⟨_,ah rfl⟩;rw[HY.o]at xq⊢;clear h1 h2 hr HY hn vJ;have hnf:=aM3;have HI:=ah hI;have HL:=ah (Ir hI);have hlt:=hI.lt;go_enter Tryz.func169,Tryz.ntmps169;go_upto_region 1 with fail;generalize hW:World.alloc w _=W0;have HB0:aj (Below w.heap.size w W0):=ah afd;have HZ0:aj (W0.heap[w.heap.size]? =some (.cells FB 82 (0,0))):=ah acC;have HN:=ah (rX R ts W0 (HI.o.below HB0.o));unfold yY at HN;rw[hk]at HN;clear hW hI hk;go_wp2_with fail;refine HN.o.mono ?_;rintro e w1 ⟨rfl,h2⟩;have HB1:=ah (HB0.o.trans (h2.mono HB0.o.size));have HZ1:=jq h2 HZ0;clear h2 HN HB0 HZ0;go_upto_region 3 with fail;obtain⟨gt,hg⟩: ∃g,w1.heap.size=g:=⟨_,rfl⟩;rw[hg];generalize hW:World.alloc (World.alloc w1 _) _=W2;have jC:=ah (Vt HI.o HB1.o HZ1.o HL.o gt hg W2 hW);have e0:=jC.o.2.2.2.1;have e1:=jC.o.2.2.2.2.1;have kW:aj (R.br<w.heap.size∧w.heap.size<gt):=ah ⟨hlt,jC.o.2.2.2.2.2⟩;clear hW hg HB1 HZ1;go_wp2_with fail;refine(WZ.o _).mono ?_;rintro e w3 ⟨rfl,rfl⟩;have f0:=jC.o.1.free 0;have c0:=jC.o.1.cell (j:=0) rfl;go_upto_region 13 with fail;generalize hW:World.setCell W2 _ _=W3;have qC:aj (Pm R (gt+1) (gt+2) W3 ⟨hd 4 ((gH ts:Nat):Int),.nil,.nil,zS⟩ ts):=ah (by rw[<- hW];exact jC.o.1.op 4 ae8);have yj:aj (Fr R.br (gt+1) W2 W3):=ah abU;obtain⟨pos,hp,q0,q1,fq,HX⟩:=qC.o.rd.open;clear hW f0 c0 e0 e1 hnf WZ;go_upto_region 14 with fail;generalize hW:World.setCell W3 _ _=W4;have HQ:aj (eP W4 R ts.tail∧W3.grownBy W4 (some R.br)):=ah adg;have xC:=ah (qC.o.then HQ.o.1 HQ.o.2);have tu:=ah (yj.o.trans (Fr.wX HQ.o.2));clear hW q0 q1 fq HX qC HQ yj;go_wp2_with fail;refine(xq.o gt _ xC.o).mono ?_;rintro e w4 ⟨rfl,⟨s,h2⟩,h3⟩;have xC:=ah h2;have Ck:=ah (tu.o.trans h3);clear h2 h3;have zX:=ah (Lm Ck.o jC.o.2.2.1 afn afn);obtain⟨⟨y0,y1,y2,y3,y4,y5,y6,y7,y8,y9,jM⟩,fz⟩:=z11 zX.o;have z0:=fz 0;have z1:=fz 1;have z2:=fz 2;have z3:=fz 3;have z4:=fz 4;have z5:=fz 5;have z6:=fz 6;have z7:=fz 7;have z8:=fz 8;have z9:=fz 9;have dV:=fz 10;obtain⟨d0,d1,d2,d3,d4,d5,d6,d7,d8,d9,tN⟩:=Vj xC.o;clear fz;go_wp2_with fail;exact bodyPost_ret (v:= .tuple #[iG Y.h Y.b Y.e s,.bool true]) aaE rfl (am7 xC.o (Ck.o.gr jC.o.2.1 afn) kW.o.1 afn)
inductive Lz (S:bL->Sx->bL->Prop):bL->List Sx->bL->Prop
 |nil {ts:bL} :at' [125] ts=true->Lz S ts [] ts.tail
 |cons {ts q r:bL} {y:Sx} {m:List Sx} :at' [125] ts=false->S ts y q->Lz S q m r->Lz S ts (y::m) r
def CX:List Sx->bf
 | []=> .nil
 |y::m=> .cons y.h y.b y.e (CX m)
theorem am8: ∀l:List bU,fQ l=CX (l.map (λx=>⟨x.h,x.b,x.e⟩))
 | []=>rfl
 |x::r=>by show bf.cons x.h x.b x.e (fQ r)=bf.cons x.h x.b x.e (CX _);rw[am8 r]
theorem MR (R:Rp) (S:bL->Sx->bL->Prop) (Tv:aj (∀q y r,S q y r->Gn R q y r)) (ts r:bL) (M:List Sx) (h1:at' [123] ts=true) (hM:Lz S ts.tail M r) (hl:M.length<=4096):wR R ts (CX M) r:=by
 intro w hI;have HI:=ah hI;have ar7:=ah HI.o.lt;have HM:=ah (ay hM hl);clear hI hM hl;obtain⟨i0,hi,hz0,hz1,hz2⟩:=bg0;have fF:=ah (ay hi (ay hz0 (ay hz1 hz2)));clear hi hz0 hz1 hz2;go_enter Tryz.func145,Tryz.ntmps145;go_wp2_with fail;refine(lM R _ _ ⟨#[123]⟩ rfl h1 HI.o).mono ?_;rintro e w1 ⟨rfl,h2,h3⟩;have HK:=ah (ay h2 h3);clear h2 h3 HI h1;go_wp2_with fail;go_loopg [4] M.length (λgk v4 wr=> ∃(l:List bU) (m:List Sx) (rest:bL),gk=m.length∧Lz S rest m r∧l.map (λx=>(⟨x.h,x.b,x.e⟩:Sx))++m=M∧Ny w.heap.size wr v4 l∧(∀x∈l,A9 x.h x.b x.e)∧eP wr R rest∧w.grownBy wr (some R.br))
 case atStart=>exact⟨[],M,_,rfl,HM.o.1,rfl,Grow.nil _ _ _ _ _ _,ahh,HK.o.1,HK.o.2⟩
 case round=>
  obtain⟨l,m,rest,rfl,hz,hlm,hg,hok,hr,hgr⟩:=hrel;have NI:=ah hlm;have HL:aj (l.length+m.length<=4096):=ah (by have:=congrArg List.length hlm;simp only[au,fM]at this;have:=HM.o.2;omega);have HG:=ah hg;have kK:=ah hok;have HR:=ah hr;have oG:=ah hgr;clear hlm hg hok hr hgr HK;cases hz with
  | @nil rest h4=>
    go_wp2_with fail;refine(lM R _ _ ⟨#[125]⟩ rfl h4 HR.o).mono ?_;rintro e w2 ⟨rfl,h2,h3⟩;have HG2:=ah (HG.o.next (BJ h3 ar7.o));have HR2:=ah h2;have SI:=ah (jD oG.o h3);clear h2 h3;go_wp2_with fail
    go_ret2
    have hgs:Ny w.heap.size w2 u4 l:=HG2.o;obtain⟨ao,cap,e,hst⟩:=hgs.says kK.o;have hq:fQ l=CX M:=by rw[am8,<- NI.o,List.append_nil]
    rw[<- hq];exact⟨⟨ao,cap,ahB,by rw[qz];have:=HL.o;omega,hst⟩,HR2.o,SI.o⟩
  | @cons _ q _ y m h4 hs hzz=>
    have HC:=ah (Tv.o _ _ _ hs);have QH:=ah hzz;clear hs hzz;go_wp2_with fail;refine(qm R _ _ ⟨#[125]⟩ rfl h4 HR.o).mono ?_;rintro e w2 ⟨rfl,h2⟩;have HG2:=ah (HG.o.next (bR h2));have HR2:=ah (HR.o.below h2);have SI:=ah (jD oG.o (kD h2));clear h2 HG HR oG;go_wp2_with fail;refine(HC.o _ HR2.o).mono ?_;rintro e w3 ⟨s,rfl,⟨hok,hst⟩,h2,h3⟩;clear HC;have HYX:aj (y=⟨y.h,y.b,y.e⟩):=ah rfl;obtain⟨x,Gg⟩: ∃x:bU,aj (x=⟨y.h,y.b,y.e,s⟩):=⟨_,ah rfl⟩;have hok:A9 x.h x.b x.e:=by rw[Gg.o];exact hok
    have hst:iH w2.heap.size w3 (bU.I x):=by rw[Gg.o];exact hst
    rw[show iG y.h y.b y.e s=iG x.h x.b x.e x.s by rw[Gg.o]];have Cm:=ah (HG2.o.next (BJ h3 ar7.o));have HR3:=ah h2;have SK:=ah (jD SI.o h3);have uV:=ah hst;have HOX:=ah hok;have ql:aj (w2.heap.size<=w3.heap.size∧w.heap.size<=w2.heap.size):=ah ⟨h3.size,SI.o.size⟩;have pO:=ah HG2.o.lt;clear h2 h3 hst hok HG2 HR2 SI;unfold iG;go_upto_region 6 with fail;generalize hW:World.alloc w3 _=W4;obtain⟨gs,hg,-,-,dL,-⟩:=oJ hW;have EL:aj (Ny w.heap.size W4 u4 l):=ah (by rw[<- hW];exact Cm.o.next (bR (aA _ _)));have HR4:aj (eP W4 R q):=ah (by rw[<- hW];exact Bo HR3.o _);have aT1:aj (w.grownBy W4 (some R.br)):=ah (by rw[<- hW];exact Bj SK.o _);have pE:aj (iH w2.heap.size W4 (bU.I x)):=ah (by rw[<- hW];exact uV.o.next (bR (aA _ _)));rw[hg];clear hW hg Cm HR3 SK uV;obtain⟨d0,d1,d2,d3,d4,d5,d6,d7,d8,d9,tN⟩:(W4.cell? ⟨gs,0,none⟩=some (.int .i64 x.h.op)∧W4.cell? ⟨gs,1,none⟩=some (.int .i64 x.h.line)∧W4.cell? ⟨gs,2,none⟩=some (.string x.h.nm)∧W4.cell? ⟨gs,3,none⟩=some (.string x.h.arg)∧W4.cell? ⟨gs,4,none⟩=some (.slice x.s.gu x.h.idx.len x.s.eG)∧W4.cell? ⟨gs,5,none⟩=some (.int .i64 x.h.dY)∧W4.cell? ⟨gs,6,none⟩=some (.int .i64 x.h.xn)∧W4.cell? ⟨gs,7,none⟩=some (.string x.h.dX)∧W4.cell? ⟨gs,8,none⟩=some (.slice x.s.gY x.h.bM.len x.s.fD)∧W4.cell? ⟨gs,9,none⟩=some (.slice x.s.dR x.b.len x.s.dA)∧W4.cell? ⟨gs,10,none⟩=some (.slice x.s.jc x.e.len x.s.gZ)):=⟨aG dL.o rfl,aG dL.o rfl,aG dL.o rfl,aG dL.o rfl,aG dL.o rfl,aG dL.o rfl,aG dL.o rfl,aG dL.o rfl,aG dL.o rfl,aG dL.o rfl,aG dL.o rfl⟩;have kV:=ah (EL.o.next (bR (aA W4 (.cells (bU.f x).toArray 82))));have iV:=ah (gG (heap_alloc_new W4 (.cells (bU.f x).toArray 82)));have QD:aj (w.heap.size<=W4.heap.size):=ah aT1.o.size;obtain⟨hi,hz0,hz1,hz2⟩:=fF.o;have hbs:w.heap.size<=W4.heap.size+1:=Nat.le_succ_of_le QD.o;have hkl:l.length+1<=maxLen:=by have:=HL.o;simp only[aB]at this;unfold maxLen;omega
    have Fa:(l.length+1)*176<=140737488355328:=by have:=HL.o;simp only[aB]at this;omega
    go_wp2_with (at_builtin;refine wpList_append_lies _ rfl _ _ 61 rfl w.heap.size 82 i0 _ 11 176 Tryz.underlying61 hi hz0 hz1 hz2 rfl ahg _ _ _ rfl kV.o.own ⟨W4.heap.size,0,none⟩ 1 1 (bU.f x) rfl rfl iV.o (aC0 _) ahg hkl Fa afe _ rfl ?_);clear hi hz0 hz1 hz2 d0 d1 d2 d3 d4 d5 d6 d7 d8 d9 tN;intro g cap w5 hown hgr hmv hlt2;have tJ:aj (qI w.heap.size u4.ownBlock (W4.alloc (.cells (bU.f x).toArray 82)) (bU.I x)):=ah (Vu (pE.o.next (bR (aA _ _))) ql.o.2 (λk hk=>(pO.o k hk).2));have Qr:=ah (kV.o.push tJ.o rfl hown hgr afy);have iU:aj (Below w.heap.size (W4.alloc (.cells (bU.f x).toArray 82)) w5):=ah (yA hgr (λk hk=>(pO.o k hk).1) afe);have M6:aj (eP w5 R q):=ah (P5 (Bo HR4.o _) hgr (λk hk=>by have h1:=(pO.o k hk).1;have h2:=ar7.o;have h3:=R.b0;omega));have Yw:aj (w.grownBy w5 (some R.br)):=ah (Oj (Bj aT1.o _) iU.o);have bF7:aj (∀y∈l++[x],A9 y.h y.b y.e):=ah (λy hy=>by
     rcases List.mem_append.1 hy with hy|hy
     ·exact kK.o y hy
     ·rw[List.mem_singleton.1 hy];exact HOX.o)
    clear hown hgr hmv hlt2 hbs hkl Fa tJ pE iV kV iU;go_wp2_with fail;go_roundg m.length
    case measure=>simp
    case rel=>exact⟨l++[x],m,q,rfl,QH.o,by rw[<- NI.o,Gg.o];simp,Qr.o,bF7.o,M6.o,Yw.o⟩
end Go.Proofs.YtcjgfgkllmldpaaGreatDoor
end
