/- Plain functions of the parser: what a list of tokens says, and where it stops to fit. No program in sight. And what hangs on it. -/
import Derived.Test.YtgjmahnblcajbaaGreatDoorGA
import Derived.Test.YtgjmahnblcajbaaGreatDoorGMA
set_option linter.unusedSimpArgs false
set_option linter.unusedVariables false
set_option maxHeartbeats 40000000
set_option maxRecDepth 1000000
section
namespace Go.Proofs.YtgjmahnblcajbaaGreatDoor.Pz
open Go.RowKit Md Tk
abbrev aA:=List Tok
inductive bn (α:Type) where
 | ok (a:α) (rest:aA)
 | no (rest:aA)
structure E where
 op:Int
 n:Int
 nm:ByteArray
 kids:bf
def tx (l:List UInt8):ByteArray:=⟨l.toArray⟩
def nextK:aA->Nat
 | []=>0
 | t ::_=>t.kind
def ay:aA->List UInt8
 | []=>[]
 | t ::_=>t.text
def aW:aA->Nat
 | []=>0
 | t ::_=>t.line
def at' (x:List UInt8) (ts:aA):Bool:=(nextK ts == 3 || nextK ts == 4) && ay ts == x
def isName (ts:aA):Bool:=nextK ts == 1
def isNum (ts:aA):Bool:=nextK ts == 2
def oL (x:List UInt8):Int × Int:=
 if x == [124,124] then (18,1) else if x == [38,38] then (17,2) else if x == [61,61] then (11,3) else if x == [33,61] then (12,3) else if x == [60] then (13,3) else if x == [60,61] then (14,3)
 else if x == [62] then (15,3) else if x == [62,61] then (16,3) else if x == [43] then (6,4) else if x == [45] then (7,4) else if x == [42] then (8,5) else if x == [47] then (9,5) else if x == [37] then (10,5) else (0,0)
def opAt (lv:Int) (ts:aA):Int:=if nextK ts == 4 && (oL (ay ts)).2 == lv then (oL (ay ts)).1 else 0
def mk1 (op:Int) (x:E):E:=⟨op,0,⟨#[]⟩,.cons x.op x.n x.nm x.kids .nil⟩
def mk2 (op:Int) (x y:E):E:=⟨op,0,⟨#[]⟩,.cons x.op x.n x.nm x.kids (.cons y.op y.n y.nm y.kids .nil)⟩
def ixE (nm:ByteArray) (x:E):E:=⟨3,0,nm,.cons x.op x.n x.nm x.kids .nil⟩
def bn.map {α β:Type} (f:α->β):bn α->bn β
 | .ok a r=> .ok (f a) r
 | .no r=> .no r
def bn.close {α:Type} (x:List UInt8):bn α->bn α
 | .ok a r=>if at' x r then .ok a r.tail else .no r
 | .no r=> .no r
inductive M where
 | bin (lv:Nat)
 | lp (lv:Nat) (l:E)
 | un
 | pr
def pe:Nat->M->aA->bn E
 | 0,_,ts=> .no ts
 | f + 1,.bin lv,ts=>if 5 < lv then pe f .un ts else
   match pe f (.bin (lv + 1)) ts with
   | .no r=> .no r
   | .ok l r=>pe f (.lp lv l) r
 | f + 1,.lp lv l,ts=>if opAt lv ts == 0 then .ok l ts else
   match pe f (.bin (lv + 1)) ts.tail with
   | .no r=> .no r
   | .ok x r=>if lv=3 then .ok (mk2 (opAt lv ts) l x) r else pe f (.lp lv (mk2 (opAt lv ts) l x)) r
 | f + 1,.un,ts=>if at' [45] ts then (pe f .un ts.tail).map (mk1 4) else if at' [33] ts then (pe f .un ts.tail).map (mk1 5) else pe f .pr ts
 | f + 1,.pr,ts=>if isNum ts then .ok ⟨1,(val (ay ts):Nat),⟨#[]⟩,.nil⟩ ts.tail
   else if isName ts then
    (if at' [91] ts.tail then ((pe f (.bin 1) ts.tail.tail).close [93]).map (fun x=>⟨3,0,tx (ay ts),.cons x.op x.n x.nm x.kids .nil⟩) else .ok ⟨2,0,tx (ay ts),.nil⟩ ts.tail)
   else if at' [40] ts then (pe f (.bin 1) ts.tail).close [41] else .no ts
def expr (ts:aA):bn E:=pe (9 * ts.length + 9) (.bin 1) ts
def iM (x:List UInt8):Int:=
 if x == [105,102] then 2 else if x == [119,104,105,108,101] then 3 else if x == [108,111,99,107] then 4 else if x == [114,101,97,100] then 5 else if x == [119,114,105,116,101] then 6
 else if x == [116,114,97,110,115,97,99,116,105,111,110] then 7 else if x == [97,116,111,109,105,99] then 8 else if x == [119,97,105,116] then 9 else if x == [110,111,116,105,102,121] then 10
 else if x == [110,111,116,105,102,121,97,108,108] then 11 else if x == [115,112,97,119,110] then 12 else if x == [106,111,105,110] then 13 else if x == [115,101,116] then 14 else if x == [103,101,116] then 15 else 0
def hd (op line:Int):aX:=⟨op,line,⟨#[]⟩,⟨#[]⟩,.nil,0,0,⟨#[]⟩,.nil⟩
def aX.ex (h:aX) (x:E):aX:= {h with dP:=x.op,xn:=x.n,dO:=x.nm,aO:=x.kids}
def one (h:aX) (b e:aJ):aJ:= .cons h b e .nil
def app:aJ->aJ->aJ
 | .nil,l=>l
 | .cons h b e r,l=> .cons h b e (app r l)
def bn.bind {α β:Type} (r:bn α) (f:α->aA->bn β):bn β:=
 match r with
 | .ok a r=>f a r
 | .no r=> .no r
def gI (ts:aA):bn ByteArray:=if isName ts then .ok (tx (ay ts)) ts.tail else .no ts
def need (x:List UInt8) (ts:aA):bn Unit:=if at' x ts then .ok () ts.tail else .no ts
def TH (h:aX) (ts:aA):bn aJ:=
 (if at' [91] ts then ((expr ts.tail).close [93]).map (fun x=> {h with idx:= .cons x.op x.n x.nm x.kids .nil}) else .ok h ts).bind fun h ts=>
  (need [61] ts).bind fun _ ts=>(((expr ts).map fun x=>one (aX.ex h x) .nil .nil).close [59])
def ps:Nat->Bool->aA->bn aJ
 | 0,_,ts=> .no ts
 | f + 1,false,ts=>if at' [125] ts then .ok .nil ts.tail else
   match ps f true ts with
   | .no r=> .no r
   | .ok s r=>(ps f false r).map (app s)
 | f + 1,true,ts=>
   let blk:=fun (ts:aA)=>if at' [123] ts then ps f false ts.tail else .no ts
   if nextK ts == 1 then TH {hd 1 (aW ts) with nm:=tx (ay ts)} ts.tail
   else if nextK ts == 3 then
    let op:=iM (ay ts)
    let h:=hd op (aW ts)
    if op == 0 then .no ts
    else if op == 2 then (expr ts.tail).bind fun x r=>(blk r).bind fun b r=>if at' [101,108,115,101] r then (blk r.tail).map (one (aX.ex h x) b) else .ok (one (aX.ex h x) b .nil) r
    else if op == 3 then (expr ts.tail).bind fun x r=>(blk r).map fun b=>one (aX.ex h x) b .nil
    else if op == 7 || op == 8 then (blk ts.tail).map fun b=>one h b .nil
    else (gI ts.tail).bind fun s r=>
     if op == 4 || op == 5 || op == 6 then (blk r).map fun b=>one {h with nm:=s} b .nil
     else if op == 14 then ((expr r).map fun x=>one (aX.ex {h with nm:=s} x) .nil .nil).close [59]
     else if op == 15 then ((gI r).map fun a=>one {h with nm:=s,arg:=a} .nil .nil).close [59]
     else (need [59] r).map fun _=>one {h with nm:=s} .nil .nil
   else .no ts
def blk (f:Nat) (ts:aA):bn aJ:=if at' [123] ts then ps f false ts.tail else .no ts
def jX (x:List UInt8):Int:=
 if x == [118,97,114] then 1 else if x == [118,111,108,97,116,105,108,101] then 2 else if x == [109,117,116,101,120] then 3 else if x == [114,119,108,111,99,107] then 4 else if x == [99,111,110,100] then 5 else if x == [102,117,116,117,114,101] then 6 else 0
def pE (d:De) (ts:aA):bn De:=
 if at' [91] ts then (if isNum ts.tail then (if val (ay ts.tail) == 0 then .no ts.tail else (need [93] ts.tail.tail).map fun _=> {d with size:=(val (ay ts.tail):Nat)}) else .no ts.tail) else .ok d ts
def kD (d:De) (ts:aA):bn De:=
 if at' [61] ts then
  (if at' [45] ts.tail then (if isNum ts.tail.tail then .ok {d with init:= -(val (ay ts.tail.tail):Nat)} ts.tail.tail.tail else .no ts.tail.tail)
   else if isNum ts.tail then .ok {d with init:=(val (ay ts.tail):Nat)} ts.tail.tail else .no ts.tail)
 else .ok d ts
def wX (ts:aA):bn De:=
 let k:=jX (ay ts)
 ((gI ts.tail).bind fun s r=>
   let d:De:=⟨k,aW ts,s,0,0,⟨#[]⟩⟩
   if k == 1 then (pE d r).bind kD
   else if k == 2 then kD d r
   else if k == 5 then (gI r).map fun o=> {d with on:=o}
   else .ok d r).close [59]
def mE:Nat->aA->bn (List ByteArray)
 | 0,ts=> .no ts
 | f + 1,ts=>(gI ts).bind fun s r=>if at' [44] r then (mE f r.tail).map (s :: ·) else .ok [s] r
def Bz (ts:aA):bn Th:=
 (gI ts.tail).bind fun s r=>(need [40] r).bind fun _ r=>
  (if at' [41] r then .ok [] r.tail else (mE (r.length + 1) r).close [41]).bind fun l r=>
   (blk (3 * r.length + 3) r).map fun b=>⟨s,aW ts,l,b⟩
def isDecl (ts:aA):Bool:=nextK ts == 3 && !(jX (ay ts) == 0)
def nW:Nat->aA->bn (List De)
 | 0,ts=> .ok [] ts
 | f + 1,ts=>if isDecl ts then (wX ts).bind fun d r=>(nW f r).map (d :: ·) else .ok [] ts
def qA:Nat->aA->bn (List Th)
 | 0,ts=> .ok [] ts
 | f + 1,ts=>if at' [116,104,114,101,97,100] ts then (Bz ts).bind fun t r=>(qA f r).map (t :: ·) else .ok [] ts
def prog (ts:aA):bn Pr:=(nW ts.length ts).bind fun ds r=>(qA r.length r).map fun th=>⟨ds,th⟩
def jM (ts rest:aA):Int:=match rest with
 | t ::_=>t.line
 | []=>match ts.getLast? with
   | some t=>t.line
   | none=>1
def parse (s:List UInt8):Pr × Int × Int:=
 if (scan s).2.1=0 then
  match prog (scan s).1 with
  | .ok p rest=>if p.ts.isEmpty || !rest.isEmpty then (⟨[],[]⟩,3,jM (scan s).1 rest) else (p,0,0)
  | .no rest=>(⟨[],[]⟩,3,jM (scan s).1 rest)
 else (⟨[],[]⟩,(scan s).2.1,(scan s).2.2)
end Go.Proofs.YtgjmahnblcajbaaGreatDoor.Pz
end
section
namespace Go.Proofs.YtgjmahnblcajbaaGreatDoor.Pz
open Go.RowKit Md Tk
theorem Nj {x:List UInt8} {ts:aA} (h:at' x ts=true): ∃t r,ts=t ::r:=by
 cases ts with
 | nil=>exact absurd h (by simp [at',nextK])
 | cons t r=>exact ⟨t,r,rfl⟩
theorem at_len {x:List UInt8} {ts:aA} (h:at' x ts=true):ts.tail.length < ts.length:=by
 obtain ⟨t,r,rfl⟩:=Nj h; simp
theorem zV {ts:aA} (h:isName ts=true):ts.tail.length < ts.length:=by
 cases ts with
 | nil=>exact absurd h (by simp [isName,nextK])
 | cons t r=>simp
theorem QA {ts:aA} (h:isNum ts=true):ts.tail.length < ts.length:=by
 cases ts with
 | nil=>exact absurd h (by simp [isNum,nextK])
 | cons t r=>simp
theorem UJ {lv:Int} {ts:aA} (h:(opAt lv ts == 0)=false):ts.tail.length < ts.length:=by
 cases ts with
 | nil=>exact absurd h (by simp [opAt,nextK])
 | cons t r=>simp
theorem jZ (ts:aA):ts.tail.length<=ts.length:=by rw [List.length_tail]; omega
def Lt:M->aA->aA->Prop
 | .lp _ _,r,ts=>r.length<=ts.length
 | _,r,ts=>r.length < ts.length
theorem map_ok {α β:Type} {f:α->β} {x:bn α} {b:β} {r:aA} (h:x.map f= .ok b r): ∃a,x= .ok a r∧f a=b:=by
 cases x with
 | ok a r'=>simp only [bn.map,bn.ok.injEq] at h; obtain ⟨h1,rfl⟩:=h; exact ⟨a,rfl,h1⟩
 | no r'=>simp [bn.map] at h
theorem qN {α:Type} {y:List UInt8} {x:bn α} {a:α} {r:aA} (h:x.close y= .ok a r): ∃r',x= .ok a r'∧at' y r'=true∧r=r'.tail:=by
 cases x with
 | ok a' r'=>
   simp only [bn.close] at h;split at h
   ·rename_i hc; simp only [bn.ok.injEq] at h; obtain ⟨rfl,rfl⟩:=h; exact ⟨r',rfl,hc,rfl⟩
   ·cases h
 | no r'=>simp [bn.close] at h
theorem og: ∀(f:Nat) (m:M) (ts:aA) (e:E) (r:aA),pe f m ts= .ok e r->Lt m r ts
 | 0,m,ts,e,r,h=>by cases m <;> simp [pe] at h
 | f + 1,.bin lv,ts,e,r,h=>by
   unfold pe at h;split at h
   ·exact og f .un ts e r h
   ·split at h
    ·cases h
    ·rename_i l r' hl;have h1:r'.length < ts.length:=og f (.bin (lv + 1)) ts l r' hl;have h2:r.length<=r'.length:=og f (.lp lv l) r' e r h;show r.length < ts.length;omega
 | f + 1,.lp lv l,ts,e,r,h=>by
   unfold pe at h;split at h
   ·simp only [bn.ok.injEq] at h; obtain ⟨-,rfl⟩:=h; exact Nat.le_refl _
   ·split at h
    ·cases h
    ·rename_i x r' hx;have h1:r'.length < ts.tail.length:=og f (.bin (lv + 1)) ts.tail x r' hx;have h3:=jZ ts;show r.length<=ts.length;split at h
     ·simp only [bn.ok.injEq] at h; obtain ⟨-,rfl⟩:=h; omega
     ·have h2:r.length<=r'.length:=og f (.lp lv _) r' e r h;omega
 | f + 1,.un,ts,e,r,h=>by
   unfold pe at h;have h3:=jZ ts;split at h
   ·obtain ⟨a,h,-⟩:=map_ok h;have h1:r.length < ts.tail.length:=og f .un ts.tail a r h;show r.length < ts.length;omega
   ·split at h
    ·obtain ⟨a,h,-⟩:=map_ok h;have h1:r.length < ts.tail.length:=og f .un ts.tail a r h;show r.length < ts.length;omega
    ·exact og f .pr ts e r h
 | f + 1,.pr,ts,e,r,h=>by
   unfold pe at h;have h3:=jZ ts;show r.length < ts.length;split at h
   ·rename_i hn;simp only [bn.ok.injEq] at h; obtain ⟨-,rfl⟩:=h; exact QA hn
   ·split at h
    ·rename_i hn;split at h
     ·rename_i hb;obtain ⟨a,h,-⟩:=map_ok h;obtain ⟨r',h',-,rfl⟩:=qN h;have h1:r'.length < ts.tail.tail.length:=og f (.bin 1) ts.tail.tail a r' h';have h4:=jZ ts.tail;have h5:=jZ r';omega
     ·simp only [bn.ok.injEq] at h; obtain ⟨-,rfl⟩:=h; exact zV hn
    ·split at h
     ·obtain ⟨r',h',-,rfl⟩:=qN h;have h1:r'.length < ts.tail.length:=og f (.bin 1) ts.tail e r' h';have h5:=jZ r';omega
     ·cases h
def wt:M->Nat
 | .bin lv=>8 - lv
 | .lp _ _=>0
 | .un=>1
 | .pr=>0
def enough (m:M) (ts:aA) (f:Nat):Prop:=9 * ts.length + wt m < f
theorem OX (ts:aA):enough (.bin 1) ts (9 * ts.length + 9):=by simp only [enough,wt]; omega
end Go.Proofs.YtgjmahnblcajbaaGreatDoor.Pz
end
section
namespace Go.Proofs.YtgjmahnblcajbaaGreatDoor.Pz
open Go.RowKit Md Tk
def Q5 (t:Tok):Prop:=(t.kind=1->iO t.text=true)∧(t.kind=2->(t.text.isEmpty=false∧t.text.all iX=true)∧rH t.text=true)∧(t.kind=3->oU t.text=true)∧t.kind<=4
theorem C8 (p:UInt8->Bool): ∀l:List UInt8,(l.takeWhile p).all p=true
 | []=>rfl
 | c ::r=>by
   rw [List.takeWhile_cons];by_cases h:p c=true
   ·rw [if_pos h,List.all_cons,h,C8 p r]; rfl
   ·rw [if_neg h]; rfl
theorem Wx (c:UInt8) (r:List UInt8) (line:Nat) (h:(first (c ::r)).1=0):Q5 ⟨(first (c ::r)).2.1,(first (c ::r)).2.2,line⟩:=by
 have hh:(c ::r).headD 0=c:=rfl;unfold first at h ⊢;rw [hh] at h ⊢;by_cases hL:xJ c=true
 ·rw [if_pos hL] at h ⊢;unfold nP at h ⊢;by_cases h12:12 < ((c ::r).takeWhile iF).length
  ·rw [if_pos h12] at h; cases h
  ·rw [if_neg h12];have htw:(c ::r).takeWhile iF=c ::r.takeWhile iF:=by rw [List.takeWhile_cons,if_pos (Qt c hL)]
   have hall:=C8 iF (c ::r);cases hk:oU ((c ::r).takeWhile iF)
   ·refine ⟨fun _=> ?_,fun e=>by simp at e,fun e=>by simp at e,by simp⟩;show iO ((c ::r).takeWhile iF)=true;unfold iO;rw [hk,hall,decide_eq_true (by omega:((c ::r).takeWhile iF).length<=12),htw];simp [hL]
   ·refine ⟨fun e=>by simp at e,fun e=>by simp at e,fun _=>hk,by simp⟩
 ·rw [if_neg hL] at h ⊢;by_cases hD:iX c=true
  ·rw [if_pos hD] at h ⊢;unfold wS at h ⊢;split at h
   ·cases h
   ·rename_i h2;rw [if_neg h2];have hn:rH ((c ::r).takeWhile iX)=true:=by
     cases hq:rH ((c ::r).takeWhile iX)
     ·exact absurd (by rw [hq]; simp) h2
     ·rfl
    refine ⟨fun e=>(by cases e),fun _=>⟨⟨?_,C8 _ _⟩,hn⟩,fun e=>(by cases e),by simp⟩;show ((c ::r).takeWhile iX).isEmpty=false;rw [List.takeWhile_cons,if_pos hD]; rfl
  ·rw [if_neg hD] at h ⊢;unfold EZ at h ⊢;split at h
   ·cases h
   ·rename_i h2;rw [if_neg h2];exact ⟨fun e=>(by cases e),fun e=>(by cases e),fun e=>(by cases e),by simp⟩
theorem zY: ∀(f:Nat) (l:List UInt8) (line:Nat) (acc:List Tok),(∀t ∈ acc,Q5 t)-> ∀t ∈ (gJ f l line acc).1,Q5 t
 | f,[],line,acc,h=>by rw [AZ]; exact h
 | 0,_ ::_,_,acc,h=>by unfold gJ; exact h
 | f + 1,c ::r,line,acc,h=>by
   unfold gJ;split
   ·exact zY f r (line + 1) acc h
   ·split
    ·exact zY f r line acc h
    ·split
     ·exact zY f _ line acc h
     ·split
      ·rename_i h0;refine zY f _ line _ (fun t ht=> ?_);rcases List.mem_append.1 ht with ht | ht
       ·exact h t ht
       ·rw [List.mem_singleton.1 ht]; exact Wx c r line h0
      ·intro t ht; cases ht
theorem ZC (l:List UInt8): ∀t ∈ (scan l).1,Q5 t:=by
 unfold scan;split
 ·intro t ht; cases ht
 ·exact zY _ _ _ _ (fun t ht=>by cases ht)
end Go.Proofs.YtgjmahnblcajbaaGreatDoor.Pz
end
section
namespace Go.Proofs.YtgjmahnblcajbaaGreatDoor.Pz
open Go.RowKit Md Tk
def TL (N:Nat) (t:Tok):Prop:=(1<=t.line∧t.line<=N)∧1<=t.kind∧(t.kind=4->QD.contains t.text=true)∧t.text.length<=N
def TB (ts:aA):Prop:= ∀t ∈ ts,TL 4097 t
theorem TB.tail {ts:aA} (h:TB ts):TB ts.tail:=fun t ht=>h t (List.mem_of_mem_tail ht)
theorem Xj (l:List UInt8) (h:(jO l).isEmpty=false):QD.contains (jO l)=true:=by
 unfold jO at h ⊢;cases hf:QD.find? fun g=>g.isPrefixOf l with
 | none=>rw [hf] at h; exact absurd h (by decide)
 | some g=>have:=List.mem_of_find?_eq_some hf;simpa using this
theorem Rz (c:UInt8) (r:List UInt8) (line N:Nat) (h0:1<=line) (h1:line + (c ::r).length<=N) (h:(first (c ::r)).1=0):TL N ⟨(first (c ::r)).2.1,(first (c ::r)).2.2,line⟩:=by
 have hl:=(Av c r h).2.1
 suffices hs:1<=(first (c ::r)).2.1∧((first (c ::r)).2.1=4->QD.contains (first (c ::r)).2.2=true) from ⟨⟨h0,(by omega:line<=N)⟩,hs.1,hs.2,by show (first (c ::r)).2.2.length<=N; omega⟩
 clear hl;unfold first at h ⊢;split
 ·rename_i hL;rw [if_pos hL] at h;unfold nP at h ⊢;split at h
  ·cases h
  ·rename_i h12;rw [if_neg h12];cases oU ((c ::r).takeWhile iF)
   ·exact ⟨Nat.le_refl 1,fun e=>by simp at e⟩
   ·exact ⟨(by simp:1<=3),fun e=>by simp at e⟩
 ·rename_i hL;rw [if_neg hL] at h;split
  ·rename_i hD;rw [if_pos hD] at h;unfold wS at h ⊢;split at h
   ·cases h
   ·rename_i h2; rw [if_neg h2]; exact ⟨(by simp:1<=2),fun e=>by simp at e⟩
  ·rename_i hD;rw [if_neg hD] at h;unfold EZ at h ⊢;split at h
   ·cases h
   ·rename_i h2;rw [if_neg h2];exact ⟨(by simp:1<=4),fun _=>Xj _ (by simpa using h2)⟩
theorem zZ (N:Nat): ∀(f:Nat) (l:List UInt8) (line:Nat) (acc:List Tok),(∀t ∈ acc,TL N t)->1<=line->line + l.length<=N->(∀t ∈ (gJ f l line acc).1,TL N t)∧((gJ f l line acc).2.1≠0->1<=(gJ f l line acc).2.2)
 | f,[],line,acc,h,_,_=>by rw [AZ]; exact ⟨h,fun e=>absurd rfl e⟩
 | 0,_ ::_,_,acc,h,_,_=>by unfold gJ; exact ⟨h,fun e=>absurd rfl e⟩
 | f + 1,c ::r,line,acc,h,h1,hN=>by
   simp only [List.length_cons] at hN;unfold gJ;split
   ·exact zZ N f r (line + 1) acc h (by omega) (by omega)
   ·split
    ·exact zZ N f r line acc h h1 (by omega)
    ·split
     ·have:((c ::r).dropWhile (· != 10)).length<=(c ::r).length:=(List.dropWhile_suffix _).length_le;simp only [List.length_cons] at this;exact zZ N f _ line acc h h1 (by omega)
     ·split
      ·rename_i h0;refine zZ N f _ line _ (fun t ht=> ?_) h1 (by simp only [List.length_drop,List.length_cons]; omega);rcases List.mem_append.1 ht with ht | ht
       ·exact h t ht
       ·rw [List.mem_singleton.1 ht]; exact Rz c r line N h1 (by simp only [List.length_cons]; omega) h0
      ·exact ⟨fun t ht=>(by cases ht),fun _=>h1⟩
theorem xU: ∀(f:Nat) (l:List UInt8) (line:Nat) (acc:List Tok),(gJ f l line acc).1.length<=acc.length + l.length
 | f,[],line,acc=>by rw [AZ]; simp
 | 0,_ ::_,_,acc=>by unfold gJ; simp
 | f + 1,c ::r,line,acc=>by
   unfold gJ;split
   ·have:=xU f r (line + 1) acc;simp only [List.length_cons]; omega
   ·split
    ·have:=xU f r line acc;simp only [List.length_cons]; omega
    ·split
     ·have h1:((c ::r).dropWhile (· != 10)).length<=(c ::r).length:=(List.dropWhile_suffix _).length_le;have:=xU f ((c ::r).dropWhile (· != 10)) line acc;omega
     ·split
      ·rename_i h0;have hl:=(Av c r h0).1;have:=xU f ((c ::r).drop (first (c ::r)).2.2.length) line (acc++[⟨(first (c ::r)).2.1,(first (c ::r)).2.2,line⟩]);simp only [List.length_append,List.length_drop,List.length_cons,List.length_nil] at this ⊢;have:=(Av c r h0).2.1;simp only [List.length_cons] at this;omega
      ·simp
theorem ZE (l:List UInt8):(∀t ∈ (scan l).1,TL 4097 t)∧(scan l).1.length<=4096∧((scan l).2.1≠0->l.length<=4096->1<=(scan l).2.2):=by
 unfold scan;split
 ·rename_i h;exact ⟨fun t ht=>(by cases ht),Nat.zero_le _,fun _ hl=>absurd h (by omega)⟩
 ·rename_i h;obtain ⟨h1,h2⟩:=zZ 4097 l.length l 1 [] (fun t ht=>by cases ht) (Nat.le_refl _) (by omega);refine ⟨h1,?_,fun e _=>h2 e⟩;have:=xU l.length l 1 [];simp only [List.length_nil] at this;omega
end Go.Proofs.YtgjmahnblcajbaaGreatDoor.Pz
end
section
namespace Go.Proofs.YtgjmahnblcajbaaGreatDoor.Pz
open Go.RowKit Md Tk
theorem lV {α β:Type} {x:bn α} {f:α->aA->bn β} {b:β} {r:aA} (h:x.bind f= .ok b r): ∃a r',x= .ok a r'∧f a r'= .ok b r:=by
 cases x with
 | ok a r'=>exact ⟨a,r',rfl,h⟩
 | no r'=>cases h
theorem wO {ts r:aA} {s:ByteArray} (h:gI ts= .ok s r):r.length < ts.length∧isName ts=true∧r=ts.tail∧s=tx (ay ts):=by
 unfold gI at h;split at h
 ·rename_i hn;simp only [bn.ok.injEq] at h;obtain ⟨rfl,rfl⟩:=h;exact ⟨zV hn,hn,rfl,rfl⟩
 ·cases h
theorem Fw {x:List UInt8} {ts r:aA} {u:Unit} (h:need x ts= .ok u r):r.length < ts.length∧at' x ts=true∧r=ts.tail:=by
 unfold need at h;split at h
 ·rename_i hn;simp only [bn.ok.injEq] at h;obtain ⟨-,rfl⟩:=h;exact ⟨at_len hn,hn,rfl⟩
 ·cases h
theorem tF {ts r:aA} {x:E} (h:expr ts= .ok x r):r.length < ts.length:=og _ (.bin 1) ts x r h
theorem YT {h:aX} {ts r:aA} {s:aJ} (e:TH h ts= .ok s r):r.length < ts.length:=by
 unfold TH at e;obtain ⟨h',r1,e1,e⟩:=lV e;obtain ⟨u,r2,e2,e⟩:=lV e;obtain ⟨r3,e3,h3,rfl⟩:=qN e;obtain ⟨x,e3,-⟩:=map_ok e3;have k1:r1.length<=ts.length:=by
  split at e1
  ·rename_i ha;obtain ⟨x,e1,-⟩:=map_ok e1;obtain ⟨r4,e4,h4,rfl⟩:=qN e1;have:=at_len ha;have:=tF e4;have:=at_len h4;omega
  ·simp only [bn.ok.injEq] at e1;rw [e1.2];exact Nat.le_refl _
 have:=(Fw e2).1;have:=tF e3;have:=at_len h3;omega
theorem TJ {f:Nat} {ts r:aA} {s:aJ} (ih: ∀ts s r,ps f false ts= .ok s r->r.length < ts.length) (h:(if at' [123] ts then ps f false ts.tail else .no ts)= .ok s r):r.length < ts.length:=by
 split at h
 ·rename_i ha;have:=at_len ha;have:=ih _ _ _ h;omega
 ·cases h
theorem EU: ∀(f:Nat) (b:Bool) (ts:aA) (s:aJ) (r:aA),ps f b ts= .ok s r->r.length < ts.length
 | 0,b,ts,s,r,h=>by cases b <;> simp [ps] at h
 | f + 1,false,ts,s,r,h=>by
   unfold ps at h;split at h
   ·rename_i ha;simp only [bn.ok.injEq] at h;obtain ⟨-,rfl⟩:=h;exact at_len ha
   ·split at h
    ·cases h
    ·rename_i x r' hx;obtain ⟨l,h,-⟩:=map_ok h;have:=EU f true ts x r' hx;have:=EU f false r' l r h;omega
 | f + 1,true,ts,s,r,h=>by
   have hb:=fun (ts:aA) (s:aJ) (r:aA)=>TJ (ts:=ts) (s:=s) (r:=r) (fun ts s r=>EU f false ts s r);unfold ps at h;dsimp only at h;have ht:=jZ ts;split at h
   ·have:=YT h;omega
   ·split at h
    ·split at h
     ·cases h
     ·split at h
      ·obtain ⟨x,r1,e1,h⟩:=lV h;obtain ⟨b,r2,e2,h⟩:=lV h;have:=tF e1;have:=hb _ _ _ e2;split at h
       ·rename_i ha;obtain ⟨e,h,-⟩:=map_ok h;have:=hb _ _ _ h;have:=at_len ha;omega
       ·simp only [bn.ok.injEq] at h;obtain ⟨-,rfl⟩:=h;omega
      ·split at h
       ·obtain ⟨x,r1,e1,h⟩:=lV h;obtain ⟨b,h,-⟩:=map_ok h;have:=tF e1;have:=hb _ _ _ h;omega
       ·split at h
        ·obtain ⟨b,h,-⟩:=map_ok h;have:=hb _ _ _ h;omega
        ·obtain ⟨x,r1,e1,h⟩:=lV h;have:=(wO e1).1;split at h
         ·obtain ⟨b,h,-⟩:=map_ok h;have:=hb _ _ _ h;omega
         ·split at h
          ·obtain ⟨r3,e3,h3,rfl⟩:=qN h;obtain ⟨x,e3,-⟩:=map_ok e3;have:=tF e3;have:=at_len h3;omega
          ·split at h
           ·obtain ⟨r3,e3,h3,rfl⟩:=qN h;obtain ⟨x,e3,-⟩:=map_ok e3;have:=(wO e3).1;have:=at_len h3;omega
           ·obtain ⟨u,h,-⟩:=map_ok h;have:=(Fw h).1;omega
    ·cases h
theorem Q8 {f:Nat} {ts r:aA} {s:aJ} (h:blk f ts= .ok s r):r.length < ts.length:=TJ (fun ts s r=>EU f false ts s r) h
theorem V6 {d d':De} {ts r:aA} (h:pE d ts= .ok d' r):r.length<=ts.length∧d'.kind=d.kind:=by
 unfold pE at h;have ht:=jZ ts;split at h
 ·split at h
  ·split at h
   ·cases h
   ·obtain ⟨u,h2,rfl⟩:=map_ok h;have:=(Fw h2).1;have:=jZ ts.tail;exact ⟨by omega,rfl⟩
  ·cases h
 ·simp only [bn.ok.injEq] at h;obtain ⟨rfl,rfl⟩:=h;exact ⟨Nat.le_refl _,rfl⟩
theorem Lv {d d':De} {ts r:aA} (h:kD d ts= .ok d' r):r.length<=ts.length∧d'.kind=d.kind:=by
 unfold kD at h;have ht:=jZ ts;have ht2:=jZ ts.tail;have ht3:=jZ ts.tail.tail;split at h
 ·split at h
  ·split at h
   ·simp only [bn.ok.injEq] at h;obtain ⟨rfl,rfl⟩:=h;exact ⟨by omega,rfl⟩
   ·cases h
  ·split at h
   ·simp only [bn.ok.injEq] at h;obtain ⟨rfl,rfl⟩:=h;exact ⟨by omega,rfl⟩
   ·cases h
 ·simp only [bn.ok.injEq] at h;obtain ⟨rfl,rfl⟩:=h;exact ⟨Nat.le_refl _,rfl⟩
theorem U2 {ts r:aA} {d:De} (h:wX ts= .ok d r):r.length < ts.length:=by
 unfold wX at h;obtain ⟨r1,h5,h1,rfl⟩:=qN h;obtain ⟨s,r2,e2,h6⟩:=lV h5;clear h h5;have h:=h6;clear h6;have ht:=jZ ts;have h2:=(wO e2).1;have h3:=at_len h1;dsimp only at h;split at h
 ·obtain ⟨d',r3,e3,h⟩:=lV h;have:=(V6 e3).1;have:=(Lv h).1;omega
 ·split at h
  ·have:=(Lv h).1;omega
  ·split at h
   ·obtain ⟨o,h,-⟩:=map_ok h;have:=(wO h).1;omega
   ·simp only [bn.ok.injEq] at h;obtain ⟨-,rfl⟩:=h;omega
theorem LB: ∀(f:Nat) (ts:aA) (l:List ByteArray) (r:aA),mE f ts= .ok l r->r.length < ts.length
 | 0,ts,l,r,h=>by simp [mE] at h
 | f + 1,ts,l,r,h=>by
   unfold mE at h;obtain ⟨s,r1,e1,h⟩:=lV h;have h1:=(wO e1).1;split at h
   ·rename_i ha;obtain ⟨l',h,-⟩:=map_ok h;have:=LB f _ _ _ h;have:=at_len ha;omega
   ·simp only [bn.ok.injEq] at h;obtain ⟨-,rfl⟩:=h;exact h1
theorem Xz {ts r:aA} {t:Th} (h:Bz ts= .ok t r):r.length < ts.length:=by
 unfold Bz at h;obtain ⟨s,r1,e1,h⟩:=lV h;obtain ⟨u,r2,e2,h⟩:=lV h;obtain ⟨l,r3,e3,h⟩:=lV h;obtain ⟨b,h,-⟩:=map_ok h;have ht:=jZ ts;have h1:=(wO e1).1;have h2:=(Fw e2).1;have h4:=Q8 h;have h3:r3.length<=r2.length:=by
  split at e3
  ·simp only [bn.ok.injEq] at e3;obtain ⟨-,rfl⟩:=e3;exact jZ r2
  ·obtain ⟨r5,e5,h5,rfl⟩:=qN e3;have:=LB _ _ _ _ e5;have:=at_len h5;omega
 omega
end Go.Proofs.YtgjmahnblcajbaaGreatDoor.Pz
end
