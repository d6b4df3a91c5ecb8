/- Plain functions of the parser: what a list of tokens says, and where it stops to fit. No program in sight. And what hangs on it. -/
import Derived.Test.YtkajcclnlehkmaaGreatDoorGA
import Derived.Test.YtkajcclnlehkmaaGreatDoorGMA
set_option linter.unusedSimpArgs false
set_option linter.unusedVariables false
set_option maxHeartbeats 40000000
set_option maxRecDepth 1000000
section
namespace Go.Proofs.YtkajcclnlehkmaaGreatDoor.Pz
open Go.RowKit Md Tk
abbrev aA:=List Tok
inductive aS (α:Type) where
 | ok (a:α) (rest:aA)
 | no (rest:aA)
structure E where
 op:Int
 n:Int
 nm:ByteArray
 kids:aG
def tx (l:List UInt8):ByteArray:=⟨l.toArray⟩
def nextK:aA->Nat
 | []=>0
 | t ::_=>t.kind
def ay:aA->List UInt8
 | []=>[]
 | t ::_=>t.text
def aP:aA->Nat
 | []=>0
 | t ::_=>t.line
def at' (x:List UInt8) (ts:aA):Bool:=(nextK ts == 3 || nextK ts == 4) && ay ts == x
def isName (ts:aA):Bool:=nextK ts == 1
def isNum (ts:aA):Bool:=nextK ts == 2
def jW (x:List UInt8):Int × Int:=
 if x == [124,124] then (18,1) else if x == [38,38] then (17,2) else if x == [61,61] then (11,3) else if x == [33,61] then (12,3) else if x == [60] then (13,3) else if x == [60,61] then (14,3)
 else if x == [62] then (15,3) else if x == [62,61] then (16,3) else if x == [43] then (6,4) else if x == [45] then (7,4) else if x == [42] then (8,5) else if x == [47] then (9,5) else if x == [37] then (10,5) else (0,0)
def opAt (lv:Int) (ts:aA):Int:=if nextK ts == 4 && (jW (ay ts)).2 == lv then (jW (ay ts)).1 else 0
def mk1 (op:Int) (x:E):E:=⟨op,0,⟨#[]⟩,.cons x.op x.n x.nm x.kids .nil⟩
def mk2 (op:Int) (x y:E):E:=⟨op,0,⟨#[]⟩,.cons x.op x.n x.nm x.kids (.cons y.op y.n y.nm y.kids .nil)⟩
def OO (nm:ByteArray) (x:E):E:=⟨3,0,nm,.cons x.op x.n x.nm x.kids .nil⟩
def aS.map {α β:Type} (f:α->β):aS α->aS β
 | .ok a r=> .ok (f a) r
 | .no r=> .no r
def aS.close {α:Type} (x:List UInt8):aS α->aS α
 | .ok a r=>if at' x r then .ok a r.tail else .no r
 | .no r=> .no r
inductive M where
 | bin (lv:Nat)
 | lp (lv:Nat) (l:E)
 | un
 | pr
def pe:Nat->M->aA->aS E
 | 0,_,ts=> .no ts
 | f + 1,.bin lv,ts=>if 5 < lv then pe f .un ts else
   match pe f (.bin (lv + 1)) ts with
   | .no r=> .no r
   | .ok l r=>pe f (.lp lv l) r
 | f + 1,.lp lv l,ts=>if opAt lv ts == 0 then .ok l ts else
   match pe f (.bin (lv + 1)) ts.tail with
   | .no r=> .no r
   | .ok x r=>if lv=3 then .ok (mk2 (opAt lv ts) l x) r else pe f (.lp lv (mk2 (opAt lv ts) l x)) r
 | f + 1,.un,ts=>if at' [45] ts then (pe f .un ts.tail).map (mk1 4) else if at' [33] ts then (pe f .un ts.tail).map (mk1 5) else pe f .pr ts
 | f + 1,.pr,ts=>if isNum ts then .ok ⟨1,(val (ay ts):Nat),⟨#[]⟩,.nil⟩ ts.tail
   else if isName ts then
    (if at' [91] ts.tail then ((pe f (.bin 1) ts.tail.tail).close [93]).map (fun x=>⟨3,0,tx (ay ts),.cons x.op x.n x.nm x.kids .nil⟩) else .ok ⟨2,0,tx (ay ts),.nil⟩ ts.tail)
   else if at' [40] ts then (pe f (.bin 1) ts.tail).close [41] else .no ts
def expr (ts:aA):aS E:=pe (9 * ts.length + 9) (.bin 1) ts
def fK (x:List UInt8):Int:=
 if x == [105,102] then 2 else if x == [119,104,105,108,101] then 3 else if x == [108,111,99,107] then 4 else if x == [114,101,97,100] then 5 else if x == [119,114,105,116,101] then 6
 else if x == [116,114,97,110,115,97,99,116,105,111,110] then 7 else if x == [97,116,111,109,105,99] then 8 else if x == [119,97,105,116] then 9 else if x == [110,111,116,105,102,121] then 10
 else if x == [110,111,116,105,102,121,97,108,108] then 11 else if x == [115,112,97,119,110] then 12 else if x == [106,111,105,110] then 13 else if x == [115,101,116] then 14 else if x == [103,101,116] then 15 else 0
def hd (op line:Int):bD:=⟨op,line,⟨#[]⟩,⟨#[]⟩,.nil,0,0,⟨#[]⟩,.nil⟩
def bD.ex (h:bD) (x:E):bD:= {h with iJ:=x.op,xn:=x.n,iP:=x.nm,dn:=x.kids}
def one (h:bD) (b e:aL):aL:= .cons h b e .nil
def app:aL->aL->aL
 | .nil,l=>l
 | .cons h b e r,l=> .cons h b e (app r l)
def aS.bind {α β:Type} (r:aS α) (f:α->aA->aS β):aS β:=
 match r with
 | .ok a r=>f a r
 | .no r=> .no r
def dU (ts:aA):aS ByteArray:=if isName ts then .ok (tx (ay ts)) ts.tail else .no ts
def need (x:List UInt8) (ts:aA):aS Unit:=if at' x ts then .ok () ts.tail else .no ts
def GD (h:bD) (ts:aA):aS aL:=
 (if at' [91] ts then ((expr ts.tail).close [93]).map (fun x=> {h with idx:= .cons x.op x.n x.nm x.kids .nil}) else .ok h ts).bind fun h ts=>
  (need [61] ts).bind fun _ ts=>(((expr ts).map fun x=>one (bD.ex h x) .nil .nil).close [59])
def ps:Nat->Bool->aA->aS aL
 | 0,_,ts=> .no ts
 | f + 1,false,ts=>if at' [125] ts then .ok .nil ts.tail else
   match ps f true ts with
   | .no r=> .no r
   | .ok s r=>(ps f false r).map (app s)
 | f + 1,true,ts=>
   let blk:=fun (ts:aA)=>if at' [123] ts then ps f false ts.tail else .no ts
   if nextK ts == 1 then GD {hd 1 (aP ts) with nm:=tx (ay ts)} ts.tail
   else if nextK ts == 3 then
    let op:=fK (ay ts)
    let h:=hd op (aP ts)
    if op == 0 then .no ts
    else if op == 2 then (expr ts.tail).bind fun x r=>(blk r).bind fun b r=>if at' [101,108,115,101] r then (blk r.tail).map (one (bD.ex h x) b) else .ok (one (bD.ex h x) b .nil) r
    else if op == 3 then (expr ts.tail).bind fun x r=>(blk r).map fun b=>one (bD.ex h x) b .nil
    else if op == 7 || op == 8 then (blk ts.tail).map fun b=>one h b .nil
    else (dU ts.tail).bind fun s r=>
     if op == 4 || op == 5 || op == 6 then (blk r).map fun b=>one {h with nm:=s} b .nil
     else if op == 14 then ((expr r).map fun x=>one (bD.ex {h with nm:=s} x) .nil .nil).close [59]
     else if op == 15 then ((dU r).map fun a=>one {h with nm:=s,arg:=a} .nil .nil).close [59]
     else (need [59] r).map fun _=>one {h with nm:=s} .nil .nil
   else .no ts
def blk (f:Nat) (ts:aA):aS aL:=if at' [123] ts then ps f false ts.tail else .no ts
def gY (x:List UInt8):Int:=
 if x == [118,97,114] then 1 else if x == [118,111,108,97,116,105,108,101] then 2 else if x == [109,117,116,101,120] then 3 else if x == [114,119,108,111,99,107] then 4 else if x == [99,111,110,100] then 5 else if x == [102,117,116,117,114,101] then 6 else 0
def kC (d:De) (ts:aA):aS De:=
 if at' [91] ts then (if isNum ts.tail then (if val (ay ts.tail) == 0 then .no ts.tail else (need [93] ts.tail.tail).map fun _=> {d with size:=(val (ay ts.tail):Nat)}) else .no ts.tail) else .ok d ts
def iB (d:De) (ts:aA):aS De:=
 if at' [61] ts then
  (if at' [45] ts.tail then (if isNum ts.tail.tail then .ok {d with init:= -(val (ay ts.tail.tail):Nat)} ts.tail.tail.tail else .no ts.tail.tail)
   else if isNum ts.tail then .ok {d with init:=(val (ay ts.tail):Nat)} ts.tail.tail else .no ts.tail)
 else .ok d ts
def nU (ts:aA):aS De:=
 let k:=gY (ay ts)
 ((dU ts.tail).bind fun s r=>
   let d:De:=⟨k,aP ts,s,0,0,⟨#[]⟩⟩
   if k == 1 then (kC d r).bind iB
   else if k == 2 then iB d r
   else if k == 5 then (dU r).map fun o=> {d with on:=o}
   else .ok d r).close [59]
def jh:Nat->aA->aS (List ByteArray)
 | 0,ts=> .no ts
 | f + 1,ts=>(dU ts).bind fun s r=>if at' [44] r then (jh f r.tail).map (s :: ·) else .ok [s] r
def rU (ts:aA):aS Th:=
 (dU ts.tail).bind fun s r=>(need [40] r).bind fun _ r=>
  (if at' [41] r then .ok [] r.tail else (jh (r.length + 1) r).close [41]).bind fun l r=>
   (blk (3 * r.length + 3) r).map fun b=>⟨s,aP ts,l,b⟩
def isDecl (ts:aA):Bool:=nextK ts == 3 && !(gY (ay ts) == 0)
def jK:Nat->aA->aS (List De)
 | 0,ts=> .ok [] ts
 | f + 1,ts=>if isDecl ts then (nU ts).bind fun d r=>(jK f r).map (d :: ·) else .ok [] ts
def kR:Nat->aA->aS (List Th)
 | 0,ts=> .ok [] ts
 | f + 1,ts=>if at' [116,104,114,101,97,100] ts then (rU ts).bind fun t r=>(kR f r).map (t :: ·) else .ok [] ts
def prog (ts:aA):aS Pr:=(jK ts.length ts).bind fun ds r=>(kR r.length r).map fun th=>⟨ds,th⟩
def dM (ts rest:aA):Int:=match rest with
 | t ::_=>t.line
 | []=>match ts.getLast? with
   | some t=>t.line
   | none=>1
def parse (s:List UInt8):Pr × Int × Int:=
 if (scan s).2.1=0 then
  match prog (scan s).1 with
  | .ok p rest=>if p.ts.isEmpty || !rest.isEmpty then (⟨[],[]⟩,3,dM (scan s).1 rest) else (p,0,0)
  | .no rest=>(⟨[],[]⟩,3,dM (scan s).1 rest)
 else (⟨[],[]⟩,(scan s).2.1,(scan s).2.2)
def gJ (s:List UInt8):E × Int × Int:=
 if (scan s).2.1=0 then
  match expr (scan s).1 with
  | .ok x rest=>if !rest.isEmpty then (⟨0,0,⟨#[]⟩,.nil⟩,3,dM (scan s).1 rest) else (x,0,0)
  | .no rest=>(⟨0,0,⟨#[]⟩,.nil⟩,3,dM (scan s).1 rest)
 else (⟨0,0,⟨#[]⟩,.nil⟩,(scan s).2.1,(scan s).2.2)
end Go.Proofs.YtkajcclnlehkmaaGreatDoor.Pz
end
section
namespace Go.Proofs.YtkajcclnlehkmaaGreatDoor.Pz
open Go.RowKit Md Tk
theorem Ci {x:List UInt8} {ts:aA} (h:at' x ts=true): ∃t r,ts=t ::r:=by
 cases ts with
 | nil=>exact absurd h (by simp [at',nextK])
 | cons t r=>exact ⟨t,r,rfl⟩
theorem at_len {x:List UInt8} {ts:aA} (h:at' x ts=true):ts.tail.length < ts.length:=by
 obtain ⟨t,r,rfl⟩:=Ci h; simp
theorem qA {ts:aA} (h:isName ts=true):ts.tail.length < ts.length:=by
 cases ts with
 | nil=>exact absurd h (by simp [isName,nextK])
 | cons t r=>simp
theorem EJ {ts:aA} (h:isNum ts=true):ts.tail.length < ts.length:=by
 cases ts with
 | nil=>exact absurd h (by simp [isNum,nextK])
 | cons t r=>simp
theorem Iq {lv:Int} {ts:aA} (h:(opAt lv ts == 0)=false):ts.tail.length < ts.length:=by
 cases ts with
 | nil=>exact absurd h (by simp [opAt,nextK])
 | cons t r=>simp
theorem ig (ts:aA):ts.tail.length<=ts.length:=by rw [List.length_tail]; omega
def Lt:M->aA->aA->Prop
 | .lp _ _,r,ts=>r.length<=ts.length
 | _,r,ts=>r.length < ts.length
theorem map_ok {α β:Type} {f:α->β} {x:aS α} {b:β} {r:aA} (h:x.map f= .ok b r): ∃a,x= .ok a r∧f a=b:=by
 cases x with
 | ok a r'=>simp only [aS.map,aS.ok.injEq] at h; obtain ⟨h1,rfl⟩:=h; exact ⟨a,rfl,h1⟩
 | no r'=>simp [aS.map] at h
theorem kV {α:Type} {y:List UInt8} {x:aS α} {a:α} {r:aA} (h:x.close y= .ok a r): ∃r',x= .ok a r'∧at' y r'=true∧r=r'.tail:=by
 cases x with
 | ok a' r'=>
   simp only [aS.close] at h;split at h
   ·rename_i hc; simp only [aS.ok.injEq] at h; obtain ⟨rfl,rfl⟩:=h; exact ⟨r',rfl,hc,rfl⟩
   ·cases h
 | no r'=>simp [aS.close] at h
theorem jN: ∀(f:Nat) (m:M) (ts:aA) (e:E) (r:aA),pe f m ts= .ok e r->Lt m r ts
 | 0,m,ts,e,r,h=>by cases m <;> simp [pe] at h
 | f + 1,.bin lv,ts,e,r,h=>by
   unfold pe at h;split at h
   ·exact jN f .un ts e r h
   ·split at h
    ·cases h
    ·rename_i l r' hl;have h1:r'.length < ts.length:=jN f (.bin (lv + 1)) ts l r' hl;have h2:r.length<=r'.length:=jN f (.lp lv l) r' e r h;show r.length < ts.length;omega
 | f + 1,.lp lv l,ts,e,r,h=>by
   unfold pe at h;split at h
   ·simp only [aS.ok.injEq] at h; obtain ⟨-,rfl⟩:=h; exact Nat.le_refl _
   ·split at h
    ·cases h
    ·rename_i x r' hx;have h1:r'.length < ts.tail.length:=jN f (.bin (lv + 1)) ts.tail x r' hx;have h3:=ig ts;show r.length<=ts.length;split at h
     ·simp only [aS.ok.injEq] at h; obtain ⟨-,rfl⟩:=h; omega
     ·have h2:r.length<=r'.length:=jN f (.lp lv _) r' e r h;omega
 | f + 1,.un,ts,e,r,h=>by
   unfold pe at h;have h3:=ig ts;split at h
   ·obtain ⟨a,h,-⟩:=map_ok h;have h1:r.length < ts.tail.length:=jN f .un ts.tail a r h;show r.length < ts.length;omega
   ·split at h
    ·obtain ⟨a,h,-⟩:=map_ok h;have h1:r.length < ts.tail.length:=jN f .un ts.tail a r h;show r.length < ts.length;omega
    ·exact jN f .pr ts e r h
 | f + 1,.pr,ts,e,r,h=>by
   unfold pe at h;have h3:=ig ts;show r.length < ts.length;split at h
   ·rename_i hn;simp only [aS.ok.injEq] at h; obtain ⟨-,rfl⟩:=h; exact EJ hn
   ·split at h
    ·rename_i hn;split at h
     ·rename_i hb;obtain ⟨a,h,-⟩:=map_ok h;obtain ⟨r',h',-,rfl⟩:=kV h;have h1:r'.length < ts.tail.tail.length:=jN f (.bin 1) ts.tail.tail a r' h';have h4:=ig ts.tail;have h5:=ig r';omega
     ·simp only [aS.ok.injEq] at h; obtain ⟨-,rfl⟩:=h; exact qA hn
    ·split at h
     ·obtain ⟨r',h',-,rfl⟩:=kV h;have h1:r'.length < ts.tail.length:=jN f (.bin 1) ts.tail e r' h';have h5:=ig r';omega
     ·cases h
def wt:M->Nat
 | .bin lv=>8 - lv
 | .lp _ _=>0
 | .un=>1
 | .pr=>0
def enough (m:M) (ts:aA) (f:Nat):Prop:=9 * ts.length + wt m < f
theorem Dy (ts:aA):enough (.bin 1) ts (9 * ts.length + 9):=by simp only [enough,wt]; omega
end Go.Proofs.YtkajcclnlehkmaaGreatDoor.Pz
end
section
namespace Go.Proofs.YtkajcclnlehkmaaGreatDoor.Pz
open Go.RowKit Md Tk
def El (t:Tok):Prop:=(t.kind=1->cO t.text=true)∧(t.kind=2->(t.text.isEmpty=false∧t.text.all fU=true)∧lD t.text=true)∧(t.kind=3->kg t.text=true)∧t.kind<=4
theorem sG (p:UInt8->Bool): ∀l:List UInt8,(l.takeWhile p).all p=true
 | []=>rfl
 | c ::r=>by
   rw [List.takeWhile_cons];by_cases h:p c=true
   ·rw [if_pos h,List.all_cons,h,sG p r]; rfl
   ·rw [if_neg h]; rfl
theorem Jp (c:UInt8) (r:List UInt8) (line:Nat) (h:(first (c ::r)).1=0):El ⟨(first (c ::r)).2.1,(first (c ::r)).2.2,line⟩:=by
 have hh:(c ::r).headD 0=c:=rfl;unfold first at h ⊢;rw [hh] at h ⊢;by_cases hL:oo c=true
 ·rw [if_pos hL] at h ⊢;unfold jF at h ⊢;by_cases h12:12 < ((c ::r).takeWhile eU).length
  ·rw [if_pos h12] at h; cases h
  ·rw [if_neg h12];have Ub:(c ::r).takeWhile eU=c ::r.takeWhile eU:=by rw [List.takeWhile_cons,if_pos (EG c hL)]
   have hall:=sG eU (c ::r);cases hk:kg ((c ::r).takeWhile eU)
   ·refine ⟨fun _=> ?_,fun e=>by simp at e,fun e=>by simp at e,by simp⟩;show cO ((c ::r).takeWhile eU)=true;unfold cO;rw [hk,hall,decide_eq_true (by omega:((c ::r).takeWhile eU).length<=12),Ub];simp [hL]
   ·refine ⟨fun e=>by simp at e,fun e=>by simp at e,fun _=>hk,by simp⟩
 ·rw [if_neg hL] at h ⊢;by_cases hD:fU c=true
  ·rw [if_pos hD] at h ⊢;unfold nR at h ⊢;split at h
   ·cases h
   ·rename_i h2;rw [if_neg h2];have hn:lD ((c ::r).takeWhile fU)=true:=by
     cases hq:lD ((c ::r).takeWhile fU)
     ·exact absurd (by rw [hq]; simp) h2
     ·rfl
    refine ⟨fun e=>(by cases e),fun _=>⟨⟨?_,sG _ _⟩,hn⟩,fun e=>(by cases e),by simp⟩;show ((c ::r).takeWhile fU).isEmpty=false;rw [List.takeWhile_cons,if_pos hD]; rfl
  ·rw [if_neg hD] at h ⊢;unfold vP at h ⊢;split at h
   ·cases h
   ·rename_i h2;rw [if_neg h2];exact ⟨fun e=>(by cases e),fun e=>(by cases e),fun e=>(by cases e),by simp⟩
theorem qD: ∀(f:Nat) (l:List UInt8) (line:Nat) (acc:List Tok),(∀t ∈ acc,El t)-> ∀t ∈ (dW f l line acc).1,El t
 | f,[],line,acc,h=>by rw [rE]; exact h
 | 0,_ ::_,_,acc,h=>by unfold dW; exact h
 | f + 1,c ::r,line,acc,h=>by
   unfold dW;split
   ·exact qD f r (line + 1) acc h
   ·split
    ·exact qD f r line acc h
    ·split
     ·exact qD f _ line acc h
     ·split
      ·rename_i h0;refine qD f _ line _ (fun t ht=> ?_);rcases List.mem_append.1 ht with ht | ht
       ·exact h t ht
       ·rw [List.mem_singleton.1 ht]; exact Jp c r line h0
      ·intro t ht; cases ht
theorem EM (l:List UInt8): ∀t ∈ (scan l).1,El t:=by
 unfold scan;split
 ·intro t ht; cases ht
 ·exact qD _ _ _ _ (fun t ht=>by cases ht)
end Go.Proofs.YtkajcclnlehkmaaGreatDoor.Pz
end
section
namespace Go.Proofs.YtkajcclnlehkmaaGreatDoor.Pz
open Go.RowKit Md Tk
def TL (N:Nat) (t:Tok):Prop:=(1<=t.line∧t.line<=N)∧1<=t.kind∧(t.kind=4->EO.contains t.text=true)∧t.text.length<=N
def GA (ts:aA):Prop:= ∀t ∈ ts,TL 4097 t
theorem GA.tail {ts:aA} (h:GA ts):GA ts.tail:=fun t ht=>h t (List.mem_of_mem_tail ht)
theorem JY (l:List UInt8) (h:(gM l).isEmpty=false):EO.contains (gM l)=true:=by
 unfold gM at h ⊢;cases hf:EO.find? fun g=>g.isPrefixOf l with
 | none=>rw [hf] at h; exact absurd h (by decide)
 | some g=>have:=List.mem_of_find?_eq_some hf;simpa using this
theorem Fz (c:UInt8) (r:List UInt8) (line N:Nat) (h0:1<=line) (h1:line + (c ::r).length<=N) (h:(first (c ::r)).1=0):TL N ⟨(first (c ::r)).2.1,(first (c ::r)).2.2,line⟩:=by
 have hl:=(qU c r h).2.1
 suffices hs:1<=(first (c ::r)).2.1∧((first (c ::r)).2.1=4->EO.contains (first (c ::r)).2.2=true) from ⟨⟨h0,(by omega:line<=N)⟩,hs.1,hs.2,by show (first (c ::r)).2.2.length<=N; omega⟩
 clear hl;unfold first at h ⊢;split
 ·rename_i hL;rw [if_pos hL] at h;unfold jF at h ⊢;split at h
  ·cases h
  ·rename_i h12;rw [if_neg h12];cases kg ((c ::r).takeWhile eU)
   ·exact ⟨Nat.le_refl 1,fun e=>by simp at e⟩
   ·exact ⟨(by simp:1<=3),fun e=>by simp at e⟩
 ·rename_i hL;rw [if_neg hL] at h;split
  ·rename_i hD;rw [if_pos hD] at h;unfold nR at h ⊢;split at h
   ·cases h
   ·rename_i h2; rw [if_neg h2]; exact ⟨(by simp:1<=2),fun e=>by simp at e⟩
  ·rename_i hD;rw [if_neg hD] at h;unfold vP at h ⊢;split at h
   ·cases h
   ·rename_i h2;rw [if_neg h2];exact ⟨(by simp:1<=4),fun _=>JY _ (by simpa using h2)⟩
theorem qE (N:Nat): ∀(f:Nat) (l:List UInt8) (line:Nat) (acc:List Tok),(∀t ∈ acc,TL N t)->1<=line->line + l.length<=N->(∀t ∈ (dW f l line acc).1,TL N t)∧((dW f l line acc).2.1≠0->1<=(dW f l line acc).2.2)
 | f,[],line,acc,h,_,_=>by rw [rE]; exact ⟨h,fun e=>absurd rfl e⟩
 | 0,_ ::_,_,acc,h,_,_=>by unfold dW; exact ⟨h,fun e=>absurd rfl e⟩
 | f + 1,c ::r,line,acc,h,h1,hN=>by
   simp only [List.length_cons] at hN;unfold dW;split
   ·exact qE N f r (line + 1) acc h (by omega) (by omega)
   ·split
    ·exact qE N f r line acc h h1 (by omega)
    ·split
     ·have:((c ::r).dropWhile (· != 10)).length<=(c ::r).length:=(List.dropWhile_suffix _).length_le;simp only [List.length_cons] at this;exact qE N f _ line acc h h1 (by omega)
     ·split
      ·rename_i h0;refine qE N f _ line _ (fun t ht=> ?_) h1 (by simp only [List.length_drop,List.length_cons]; omega);rcases List.mem_append.1 ht with ht | ht
       ·exact h t ht
       ·rw [List.mem_singleton.1 ht]; exact Fz c r line N h1 (by simp only [List.length_cons]; omega) h0
      ·exact ⟨fun t ht=>(by cases ht),fun _=>h1⟩
theorem oC: ∀(f:Nat) (l:List UInt8) (line:Nat) (acc:List Tok),(dW f l line acc).1.length<=acc.length + l.length
 | f,[],line,acc=>by rw [rE]; simp
 | 0,_ ::_,_,acc=>by unfold dW; simp
 | f + 1,c ::r,line,acc=>by
   unfold dW;split
   ·have:=oC f r (line + 1) acc;simp only [List.length_cons]; omega
   ·split
    ·have:=oC f r line acc;simp only [List.length_cons]; omega
    ·split
     ·have h1:((c ::r).dropWhile (· != 10)).length<=(c ::r).length:=(List.dropWhile_suffix _).length_le;have:=oC f ((c ::r).dropWhile (· != 10)) line acc;omega
     ·split
      ·rename_i h0;have hl:=(qU c r h0).1;have:=oC f ((c ::r).drop (first (c ::r)).2.2.length) line (acc++[⟨(first (c ::r)).2.1,(first (c ::r)).2.2,line⟩]);simp only [List.length_append,List.length_drop,List.length_cons,List.length_nil] at this ⊢;have:=(qU c r h0).2.1;simp only [List.length_cons] at this;omega
      ·simp
theorem EN (l:List UInt8):(∀t ∈ (scan l).1,TL 4097 t)∧(scan l).1.length<=4096∧((scan l).2.1≠0->l.length<=4096->1<=(scan l).2.2):=by
 unfold scan;split
 ·rename_i h;exact ⟨fun t ht=>(by cases ht),Nat.zero_le _,fun _ hl=>absurd h (by omega)⟩
 ·rename_i h;obtain ⟨h1,h2⟩:=qE 4097 l.length l 1 [] (fun t ht=>by cases ht) (Nat.le_refl _) (by omega);refine ⟨h1,?_,fun e _=>h2 e⟩;have:=oC l.length l 1 [];simp only [List.length_nil] at this;omega
end Go.Proofs.YtkajcclnlehkmaaGreatDoor.Pz
end
section
namespace Go.Proofs.YtkajcclnlehkmaaGreatDoor.Pz
open Go.RowKit Md Tk
theorem jd {α β:Type} {x:aS α} {f:α->aA->aS β} {b:β} {r:aA} (h:x.bind f= .ok b r): ∃a r',x= .ok a r'∧f a r'= .ok b r:=by
 cases x with
 | ok a r'=>exact ⟨a,r',rfl,h⟩
 | no r'=>cases h
theorem nO {ts r:aA} {s:ByteArray} (h:dU ts= .ok s r):r.length < ts.length∧isName ts=true∧r=ts.tail∧s=tx (ay ts):=by
 unfold dU at h;split at h
 ·rename_i hn;simp only [aS.ok.injEq] at h;obtain ⟨rfl,rfl⟩:=h;exact ⟨qA hn,hn,rfl,rfl⟩
 ·cases h
theorem wB {x:List UInt8} {ts r:aA} {u:Unit} (h:need x ts= .ok u r):r.length < ts.length∧at' x ts=true∧r=ts.tail:=by
 unfold need at h;split at h
 ·rename_i hn;simp only [aS.ok.injEq] at h;obtain ⟨-,rfl⟩:=h;exact ⟨at_len hn,hn,rfl⟩
 ·cases h
theorem mo {ts r:aA} {x:E} (h:expr ts= .ok x r):r.length < ts.length:=jN _ (.bin 1) ts x r h
theorem LA {h:bD} {ts r:aA} {s:aL} (e:GD h ts= .ok s r):r.length < ts.length:=by
 unfold GD at e;obtain ⟨h',r1,e1,e⟩:=jd e;obtain ⟨u,r2,e2,e⟩:=jd e;obtain ⟨r3,e3,h3,rfl⟩:=kV e;obtain ⟨x,e3,-⟩:=map_ok e3;have k1:r1.length<=ts.length:=by
  split at e1
  ·rename_i ha;obtain ⟨x,e1,-⟩:=map_ok e1;obtain ⟨r4,e4,h4,rfl⟩:=kV e1;have:=at_len ha;have:=mo e4;have:=at_len h4;omega
  ·simp only [aS.ok.injEq] at e1;rw [e1.2];exact Nat.le_refl _
 have:=(wB e2).1;have:=mo e3;have:=at_len h3;omega
theorem GJ {f:Nat} {ts r:aA} {s:aL} (ih: ∀ts s r,ps f false ts= .ok s r->r.length < ts.length) (h:(if at' [123] ts then ps f false ts.tail else .no ts)= .ok s r):r.length < ts.length:=by
 split at h
 ·rename_i ha;have:=at_len ha;have:=ih _ _ _ h;omega
 ·cases h
theorem vM: ∀(f:Nat) (b:Bool) (ts:aA) (s:aL) (r:aA),ps f b ts= .ok s r->r.length < ts.length
 | 0,b,ts,s,r,h=>by cases b <;> simp [ps] at h
 | f + 1,false,ts,s,r,h=>by
   unfold ps at h;split at h
   ·rename_i ha;simp only [aS.ok.injEq] at h;obtain ⟨-,rfl⟩:=h;exact at_len ha
   ·split at h
    ·cases h
    ·rename_i x r' hx;obtain ⟨l,h,-⟩:=map_ok h;have:=vM f true ts x r' hx;have:=vM f false r' l r h;omega
 | f + 1,true,ts,s,r,h=>by
   have hb:=fun (ts:aA) (s:aL) (r:aA)=>GJ (ts:=ts) (s:=s) (r:=r) (fun ts s r=>vM f false ts s r);unfold ps at h;dsimp only at h;have ht:=ig ts;split at h
   ·have:=LA h;omega
   ·split at h
    ·split at h
     ·cases h
     ·split at h
      ·obtain ⟨x,r1,e1,h⟩:=jd h;obtain ⟨b,r2,e2,h⟩:=jd h;have:=mo e1;have:=hb _ _ _ e2;split at h
       ·rename_i ha;obtain ⟨e,h,-⟩:=map_ok h;have:=hb _ _ _ h;have:=at_len ha;omega
       ·simp only [aS.ok.injEq] at h;obtain ⟨-,rfl⟩:=h;omega
      ·split at h
       ·obtain ⟨x,r1,e1,h⟩:=jd h;obtain ⟨b,h,-⟩:=map_ok h;have:=mo e1;have:=hb _ _ _ h;omega
       ·split at h
        ·obtain ⟨b,h,-⟩:=map_ok h;have:=hb _ _ _ h;omega
        ·obtain ⟨x,r1,e1,h⟩:=jd h;have:=(nO e1).1;split at h
         ·obtain ⟨b,h,-⟩:=map_ok h;have:=hb _ _ _ h;omega
         ·split at h
          ·obtain ⟨r3,e3,h3,rfl⟩:=kV h;obtain ⟨x,e3,-⟩:=map_ok e3;have:=mo e3;have:=at_len h3;omega
          ·split at h
           ·obtain ⟨r3,e3,h3,rfl⟩:=kV h;obtain ⟨x,e3,-⟩:=map_ok e3;have:=(nO e3).1;have:=at_len h3;omega
           ·obtain ⟨u,h,-⟩:=map_ok h;have:=(wB h).1;omega
    ·cases h
theorem Ep {f:Nat} {ts r:aA} {s:aL} (h:blk f ts= .ok s r):r.length < ts.length:=GJ (fun ts s r=>vM f false ts s r) h
theorem IJ {d d':De} {ts r:aA} (h:kC d ts= .ok d' r):r.length<=ts.length∧d'.kind=d.kind:=by
 unfold kC at h;have ht:=ig ts;split at h
 ·split at h
  ·split at h
   ·cases h
   ·obtain ⟨u,h2,rfl⟩:=map_ok h;have:=(wB h2).1;have:=ig ts.tail;exact ⟨by omega,rfl⟩
  ·cases h
 ·simp only [aS.ok.injEq] at h;obtain ⟨rfl,rfl⟩:=h;exact ⟨Nat.le_refl _,rfl⟩
theorem AU {d d':De} {ts r:aA} (h:iB d ts= .ok d' r):r.length<=ts.length∧d'.kind=d.kind:=by
 unfold iB at h;have ht:=ig ts;have ht2:=ig ts.tail;have ht3:=ig ts.tail.tail;split at h
 ·split at h
  ·split at h
   ·simp only [aS.ok.injEq] at h;obtain ⟨rfl,rfl⟩:=h;exact ⟨by omega,rfl⟩
   ·cases h
  ·split at h
   ·simp only [aS.ok.injEq] at h;obtain ⟨rfl,rfl⟩:=h;exact ⟨by omega,rfl⟩
   ·cases h
 ·simp only [aS.ok.injEq] at h;obtain ⟨rfl,rfl⟩:=h;exact ⟨Nat.le_refl _,rfl⟩
theorem GU {ts r:aA} {d:De} (h:nU ts= .ok d r):r.length < ts.length:=by
 unfold nU at h;obtain ⟨r1,h5,h1,rfl⟩:=kV h;obtain ⟨s,r2,e2,h6⟩:=jd h5;clear h h5;have h:=h6;clear h6;have ht:=ig ts;have h2:=(nO e2).1;have h3:=at_len h1;dsimp only at h;split at h
 ·obtain ⟨d',r3,e3,h⟩:=jd h;have:=(IJ e3).1;have:=(AU h).1;omega
 ·split at h
  ·have:=(AU h).1;omega
  ·split at h
   ·obtain ⟨o,h,-⟩:=map_ok h;have:=(nO h).1;omega
   ·simp only [aS.ok.injEq] at h;obtain ⟨-,rfl⟩:=h;omega
theorem AZ: ∀(f:Nat) (ts:aA) (l:List ByteArray) (r:aA),jh f ts= .ok l r->r.length < ts.length
 | 0,ts,l,r,h=>by simp [jh] at h
 | f + 1,ts,l,r,h=>by
   unfold jh at h;obtain ⟨s,r1,e1,h⟩:=jd h;have h1:=(nO e1).1;split at h
   ·rename_i ha;obtain ⟨l',h,-⟩:=map_ok h;have:=AZ f _ _ _ h;have:=at_len ha;omega
   ·simp only [aS.ok.injEq] at h;obtain ⟨-,rfl⟩:=h;exact h1
theorem Kc {ts r:aA} {t:Th} (h:rU ts= .ok t r):r.length < ts.length:=by
 unfold rU at h;obtain ⟨s,r1,e1,h⟩:=jd h;obtain ⟨u,r2,e2,h⟩:=jd h;obtain ⟨l,r3,e3,h⟩:=jd h;obtain ⟨b,h,-⟩:=map_ok h;have ht:=ig ts;have h1:=(nO e1).1;have h2:=(wB e2).1;have h4:=Ep h;have h3:r3.length<=r2.length:=by
  split at e3
  ·simp only [aS.ok.injEq] at e3;obtain ⟨-,rfl⟩:=e3;exact ig r2
  ·obtain ⟨r5,e5,h5,rfl⟩:=kV e3;have:=AZ _ _ _ _ e5;have:=at_len h5;omega
 omega
end Go.Proofs.YtkajcclnlehkmaaGreatDoor.Pz
end
